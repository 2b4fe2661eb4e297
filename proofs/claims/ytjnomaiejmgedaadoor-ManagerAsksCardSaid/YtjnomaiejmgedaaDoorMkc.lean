/-
  The proof's lemmas, part 3.
-/
import Derived.Test.YtjnomaiejmgedaaDoorMkb
import Derived.ChangeSlices
import Derived.ProofKit
import Derived.OpenShut
import Derived.Lib.Space
import Derived.Lib.LaidTab
import Derived.Test.YtjnomaiejmgedaaDoorProg
import Derived.KernelRfl
namespace Go.Proofs.YtjnomaiejmgedaaDoor
set_option linter.unusedSimpArgs false
set_option linter.unusedVariables false
section
open Go.RowKit
def seenL (Hm F : Hp) : Prop := Hm.length ≤ F.length ∧ ∀ b, blkH Hm b ≠ .d → blkH Hm b = blkH F b
def WrOp [Dr] (P : Program) (tab : Tab) (o : Oper) (E : Env) (F F1 : Hp) (t : T) : Prop :=
  (∃ f args ats g us vs ts, o.op = .call ⟨.value f, args, ats⟩ ∧ E.opd f = some (.clo g us vs) ∧ optL E.opd args.toList = some ts ∧ CallT P g (us ++ ts ++ vs) F (fun u H' => u = t ∧ H' = F1)) ∨
  (∃ x y t1 t2 ta tb, o.op = .call ⟨.builtin .append, #[x, y], #[t1, t2]⟩ ∧ E.opd x = some ta ∧ E.opd y = some tb ∧ mAppend tab F t1 t2 ta tb = some (t, F1))
inductive RunC [Dr] (P : Program) (tab : Tab) (im : List Nat) (ops : Array Oper) (Hm : Hp) : List Oper → Env → Hp → List Stp → List Hp → List Bool → Env → Hp → Prop
  | nil (E : Env) (F : Hp) : RunC P tab im ops Hm [] E F [] [] [] E F
  | one {o : Oper} {l : List Oper} {E : Env} {F : Hp} {s : Stp} {r : List Stp} {fs : List Hp} {ws : List Bool} {E' : Env} {F' : Hp} (h : StpOk P tab im ops o E Hm s) (hn : s.nb = none)
      (k : RunC P tab im ops Hm l (E.put o.dst s.t) F r fs ws E' F') : RunC P tab im ops Hm (o :: l) E F (s :: r) fs (false :: ws) E' F'
  | call {o : Oper} {l : List Oper} {E : Env} {F F1 : Hp} {t : T} {r : List Stp} {fs : List Hp} {ws : List Bool} {E' : Env} {F' : Hp} (hg : o.guard = none) (ho : WrOp P tab o E F F1 t)
      (hs : seenL Hm F1) (k : RunC P tab im ops Hm l (E.put o.dst t) F1 r fs ws E' F') : RunC P tab im ops Hm (o :: l) E F (⟨t, none⟩ :: r) (F1 :: fs) (true :: ws) E' F'
def cntB (ws : List Bool) (k : Nat) : Nat := (ws.take k).countP (fun x => x)
def StpC [Dr] (P : Program) (tab : Tab) (im : List Nat) (ops : Array Oper) (Hm : Hp) (o : Oper) (E : Env) (F F1 : Hp) (s : Stp) : Bool → Prop
  | false => StpOk P tab im ops o E Hm s
  | true => o.guard = none ∧ WrOp P tab o E F F1 s.t
theorem runC_at [Dr] {P : Program} {tab : Tab} {im : List Nat} {ops : Array Oper} {Hm : Hp} {l : List Oper} {E : Env} {F : Hp} {r : List Stp} {fs : List Hp} {ws : List Bool} {E' : Env} {F' : Hp} (h : RunC P tab im ops Hm l E F r fs ws E' F') (hsn : seenL Hm F) :
    r.length = l.length ∧ ws.length = l.length ∧ fs.length = cntB ws ws.length ∧ E' = envAt l r E l.length ∧ (∀ (j : Nat) (G : Hp), (F :: fs)[j]? = some G → seenL Hm G) ∧ (F :: fs)[fs.length]? = some F' ∧ (∀ s ∈ r, s.nb = none) ∧
      ∀ (k : Nat) (o : Oper) (s : Stp) (w : Bool), l[k]? = some o → r[k]? = some s → ws[k]? = some w → ∃ G G1 : Hp, (F :: fs)[cntB ws k]? = some G ∧ (w = true → (F :: fs)[cntB ws k + 1]? = some G1) ∧ StpC P tab im ops Hm o (envAt l r E k) G G1 s w := by
  induction h with
  | nil E F => exact ⟨rfl, rfl, rfl, rfl, fun j G hj => by cases j with | zero => simp at hj; subst hj; exact hsn | succ j => simp at hj, rfl, by simp, fun k o s w h => by simp at h⟩
  | @one o l E F s r fs ws E' F' h hn k ih =>
    obtain ⟨h1, h2, h3, h4, h5, h6, h7, h8⟩ := ih hsn
    have hc : ∀ k, cntB (false :: ws) (k + 1) = cntB ws k := fun k => by simp [cntB]
    refine ⟨by simp [h1], by simp [h2], by rw [List.length_cons, hc]; exact h3, h4, h5, h6, fun s' hs' => ?_, fun j o' s' w ho hs' hw => ?_⟩
    · rcases List.mem_cons.1 hs' with rfl | hs'
      · exact hn
      · exact h7 s' hs'
    · cases j with
      | zero => simp at ho hs' hw; subst ho hs' hw; exact ⟨F, F, by simp [cntB], fun hh => (by cases hh), h⟩
      | succ j =>
        obtain ⟨G, G1, g1, g2, g3⟩ := h8 j o' s' w (by simpa using ho) (by simpa using hs') (by simpa using hw)
        exact ⟨G, G1, by rw [hc]; exact g1, by rw [hc]; exact g2, g3⟩
  | @call o l E F F1 t r fs ws E' F' hg ho hs k ih =>
    obtain ⟨h1, h2, h3, h4, h5, h6, h7, h8⟩ := ih hs
    have hc : ∀ k, cntB (true :: ws) (k + 1) = cntB ws k + 1 := fun k => by simp [cntB]
    refine ⟨by simp [h1], by simp [h2], by rw [List.length_cons, List.length_cons, hc]; omega, h4, fun j G hj => ?_, by simpa using h6, fun s' hs' => ?_, fun j o' s' w ho' hs' hw => ?_⟩
    · cases j with
      | zero => simp at hj; subst hj; exact hsn
      | succ j => exact h5 j G (by simpa using hj)
    · rcases List.mem_cons.1 hs' with rfl | hs'
      · rfl
      · exact h7 s' hs'
    · cases j with
      | zero => simp at ho' hs' hw; subst ho' hs' hw; exact ⟨F, F1, by simp [cntB], fun _ => by simp [cntB], hg, ho⟩
      | succ j =>
        obtain ⟨G, G1, g1, g2, g3⟩ := h8 j o' s' w (by simpa using ho') (by simpa using hs') (by simpa using hw)
        refine ⟨G, G1, by rw [hc]; simpa using g1, fun hh => by rw [hc]; simpa using g2 hh, ?_⟩
        exact g3
section
variable {z : Bool} {P : Program} {tab : Tab} {n m kb lb : Nat} {l : List Oper} {E : Env} {Hm : Hp} {Fs : List Hp} {r : List Stp} {ws : List Bool} {X0 : Nat → Prop} {M0 : Mp} {im : List Nat}
structure JdC [Dr] (n kb : Nat) (pre : List Oper) (r : List Stp) (Fs : List Hp) (ws : List Bool) (E : Env) (X0 : Nat → Prop) (j : Nat) (L : Nat → Prop) (a : Act) (M : Mp) : Prop where
  sim : ∃ G, Fs[j]? = some G ∧ SimH G X0 M
  slot : ∀ k o s d, pre[k]? = some o → r[k]? = some s → L k → o.dst = some d → ∃ u, a.tmps[d]? = some u ∧ Rep M s.t u
  old : ∀ d t, E.get d = some t → (∀ k o, pre[k]? = some o → L k → o.dst ≠ some d) → ∃ u, a.tmps[d]? = some u ∧ Rep M t u
  sz : a.tmps.size = n
  df : Marks kb a.defers M
  ge : kb ≤ M.w.heap.size
  cnt : ∀ k, ws[k]? = some true → (L k ↔ cntB ws k < j)
structure RunCF [Dr] (P : Program) (tab : Tab) (im : List Nat) (l : List Oper) (m : Nat) (E : Env) (Hm : Hp) (r : List Stp) (Fs : List Hp) (ws : List Bool) : Prop where
  rl : r.length = (l.take m).length
  wl : ws.length = (l.take m).length
  nb : ∀ s ∈ r, s.nb = none
  sn : ∀ (j : Nat) (G : Hp), Fs[j]? = some G → seenL Hm G
  st : ∀ (k : Nat) (o : Oper) (s : Stp) (w : Bool), (l.take m)[k]? = some o → r[k]? = some s → ws[k]? = some w → ∃ G G1 : Hp, Fs[cntB ws k]? = some G ∧ (w = true → Fs[cntB ws k + 1]? = some G1) ∧ StpC P tab im l.toArray Hm o (envAt (l.take m) r E k) G G1 s w
  /-- calls keep the text's order -/
  ch : ∀ k j, k < m → j < k → ws[k]? = some true → ws[j]? = some true → ((masks l []).getD k 0).testBit j = true
theorem cntB_pos {ws : List Bool} {j : Nat} : ∀ {k : Nat}, j < cntB ws k → ∃ k', k' < k ∧ ws[k']? = some true ∧ cntB ws k' = j
  | 0, h => by simp [cntB] at h
  | k + 1, h => by
    by_cases hk : j < cntB ws k
    · obtain ⟨k', h1, h2⟩ := cntB_pos hk
      exact ⟨k', by omega, h2⟩
    · cases hw : ws[k]? with
      | none =>
        have hl := List.getElem?_eq_none_iff.1 hw
        unfold cntB at h hk
        rw [List.take_of_length_le (by omega)] at h hk
        omega
      | some x =>
        have e : ws.take (k + 1) = ws.take k ++ [x] := by rw [List.take_add_one, hw]; rfl
        unfold cntB at h hk
        rw [e, List.countP_append] at h
        cases x with
        | false => simp at h; omega
        | true =>
          simp at h
          exact ⟨k, Nat.lt_succ_self _, hw, by unfold cntB; omega⟩
theorem cntB_mono {ws : List Bool} {k k' : Nat} (h : k < k') (hw : ws[k]? = some true) : cntB ws k < cntB ws k' := by
  have e1 : cntB ws (k + 1) = cntB ws k + 1 := by
    unfold cntB
    rw [List.take_add_one, hw, List.countP_append]; simp
  have e2 : cntB ws (k + 1) ≤ cntB ws k' := by
    unfold cntB
    exact (List.take_sublist_take_left (by omega)).countP_le
  omega
theorem JdC.read [Dr] {L : Nat → Prop} {a : Act} {M : Mp} {j0 : Nat} (hO : OrdB l m) (hr : r.length = (l.take m).length) (h : JdC n kb (l.take m) r Fs ws E X0 j0 L a M) (hc : Closed l L) {k : Nat} {o : Oper} (ho : (l.take m)[k]? = some o) (hk : ¬ L k) (hpre : ∀ e ∈ o.after, Region.binds .any e = true → L e.on)
    {d : Nat} {t : T} (hd : d ∈ readsOf l.toArray o) (ht : (envAt (l.take m) r E k).get d = some t) : ∃ u, a.tmps[d]? = some u ∧ Rep M t u := by
  have hkl : k < (l.take m).length := (List.getElem?_eq_some_iff.1 ho).1
  have hol : l[k]? = some o := by rw [List.getElem?_take] at ho; split at ho; exact ho; cases ho
  have hdis : ∀ (i j : Nat) (oi oj : Oper), (l.take m)[i]? = some oi → (l.take m)[j]? = some oj → i ≠ j → ∀ d, oi.dst = some d → oj.dst ≠ some d := fun i j oi oj hi hj hij d hdi => (hO.pair j oj i oi hj hi hij d hdi).1
  obtain ⟨g1, g2⟩ := env_get (E := E) (d := d) hr (Nat.le_of_lt hkl) hdis
  by_cases hw : ∃ j oj, j < k ∧ (l.take m)[j]? = some oj ∧ oj.dst = some d
  · obtain ⟨j, oj, hj, hoj, hdj⟩ := hw
    have hs : r[j]? = some r[j] := List.getElem?_eq_getElem (by omega)
    rw [g1 j oj _ hj hoj hs hdj] at ht
    injection ht with ht; subst ht
    have hm := (hO.pair k o j oj ho hoj (by omega) d hdj).2 hd
    rw [if_pos hj] at hm
    exact h.slot j oj _ d hoj hs (mask_next hO.back hc hol hpre hm) hdj
  · rw [g2 fun j oj hj hoj hdj => hw ⟨j, oj, hj, hoj, hdj⟩] at ht
    refine h.old d t ht fun j oj hoj hLj hdj => ?_
    by_cases hjk : j = k
    · subst hjk; exact hk hLj
    · have hm := (hO.pair k o j oj ho hoj hjk d hdj).2 hd
      by_cases hlt : j < k
      · exact hw ⟨j, oj, hlt, hoj, hdj⟩
      · rw [if_neg hlt] at hm
        exact hk (mask_listed hO.back hc j hLj k hm)
theorem JdC.next [Dr] {L : Nat → Prop} {a : Act} {M M' : Mp} {j j' : Nat} (hO : OrdB l m) (h : JdC n kb (l.take m) r Fs ws E X0 j L a M) {k : Nat} {o : Oper} {s : Stp} {u : Value} (ho : (l.take m)[k]? = some o) (hs : r[k]? = some s) (hk : ¬ L k) (hd : ∀ d, o.dst = some d → d < n)
    (hE : Evo X0 M M') (hS : ∃ G, Fs[j']? = some G ∧ SimH G X0 M') (hr : Rep M' s.t u)
    (hcnt : ∀ k', ws[k']? = some true → ((L k' ∨ k' = k) ↔ cntB ws k' < j')) : JdC n kb (l.take m) r Fs ws E X0 j' (fun i => L i ∨ i = k) (a.put o.dst u) M' := by
  have keep : ∀ d v, o.dst ≠ some d → a.tmps[d]? = some v → (a.put o.dst u).tmps[d]? = some v := fun d v hne hv => by
    cases hod : o.dst with
    | none => exact hv
    | some d' => simp only [Act.put]; rw [Array.getElem?_setIfInBounds_ne (fun e => hne (by rw [hod, e]))]; exact hv
  refine ⟨hS, fun j oj sj d hoj hsj hL hdj => ?_, fun d t ht hno => ?_, ?_, ?_, Nat.le_trans h.ge hE.size, hcnt⟩
  · by_cases hjk : j = k
    · subst hjk
      rw [ho] at hoj; rw [hs] at hsj
      injection hoj with hoj; injection hsj with hsj; subst hoj hsj
      refine ⟨u, ?_, hr⟩
      rw [hdj]
      simp [Act.put, h.sz, hd d hdj]
    · obtain ⟨v, h1, h2⟩ := h.slot j oj sj d hoj hsj (hL.resolve_right hjk) hdj
      exact ⟨v, keep d v (hO.pair k o j oj ho hoj hjk d hdj).1 h1, Rep.stays hE.stays _ _ h2⟩
  · obtain ⟨v, h1, h2⟩ := h.old d t ht fun j oj hoj hL => hno j oj hoj (.inl hL)
    exact ⟨v, keep d v (hno k o ho (.inr rfl)) h1, Rep.stays hE.stays _ _ h2⟩
  · cases o.dst <;> simp [Act.put, h.sz]
  · cases o.dst <;> exact h.df.evo hE
theorem JdC.step [Dr] (hT : TabOk P tab) (hO : OrdB l m) (hF : RunCF P tab im l m E Hm r Fs ws)
    {L : Nat → Prop} {a : Act} {M : Mp} {j : Nat} (h : JdC n kb (l.take m) r Fs ws E X0 j L a M) (hc : Closed l L) {k : Nat} {o : Oper} (ho : (l.take m)[k]? = some o) (hk : ¬ L k) (hpre : ∀ e ∈ o.after, Region.binds .any e = true → L e.on) (hd : ∀ d, o.dst = some d → d < n)
    {r0 : Option Nat} {Q : Exit → Act → World → Prop} {K : Act → World → Prop} (hK : ∀ a' M' j', Evo X0 M M' → JdC n kb (l.take m) r Fs ws E X0 j' (fun i => L i ∨ i = k) a' M' → K a' M'.w) : wpOpIn (FW r0) 0 P l.toArray Q k K a M.w := by
  have hr := hF.rl
  have hkl : k < (l.take m).length := (List.getElem?_eq_some_iff.1 ho).1
  have hol : l[k]? = some o := by rw [List.getElem?_take] at ho; split at ho; exact ho; cases ho
  have hkm : k < m := by rw [List.length_take] at hkl; omega
  obtain ⟨s, hs'⟩ : ∃ x, r[k]? = some x := ⟨_, List.getElem?_eq_getElem (by omega)⟩
  obtain ⟨w, hw'⟩ : ∃ x, ws[k]? = some x := ⟨_, List.getElem?_eq_getElem (by rw [hF.wl]; omega)⟩
  obtain ⟨G, G1, hG, hG1, hstp⟩ := hF.st k o s w ho hs' hw'
  have hnb := hF.nb s (List.mem_of_getElem? hs')
  have hrd := fun (d : Nat) (t : T) => h.read hO hr hc ho hk hpre (d := d) (t := t)
  have hop : ∀ x ∈ o.op.operands.toList, ∀ t, (envAt (l.take m) r E k).opd x = some t → Rep M t (a.eval x) := by
    intro x hx t ht
    cases x with
    | tmp d =>
      obtain ⟨u, h1, h2⟩ := hrd d t (by simp only [readsOf, Oper.looksAt, List.mem_append, List.mem_filterMap]; exact .inl ⟨.tmp d, hx, rfl⟩) ht
      have : a.eval (.tmp d) = u := by show a.tmps.getD d undef = u; simp [h1]
      rw [this]; exact h2
    | const v => simp only [Env.opd] at ht; injection ht with ht; subst ht; exact rep_ofV v
    | func f => simp only [Env.opd] at ht; injection ht with ht; subst ht; exact ⟨[], [], rfl, rfl, rfl⟩
    | global g => simp only [Env.opd] at ht; injection ht with ht; subst ht; exact rfl
  unfold wpOpIn
  simp only [List.getElem?_toArray, hol]
  cases w with
  | true =>
    obtain ⟨hg, hwr⟩ := hstp
    have hw : Region.wanted o (yielded l.toArray a.tmps) = true := by simp [Region.wanted, hg]
    rw [hw, if_pos rfl]
    have hij : cntB ws k = j := by
      have h1 : ¬ cntB ws k < j := fun hh => hk ((h.cnt k hw').2 hh)
      refine Nat.le_antisymm (Nat.le_of_not_lt fun hh => ?_) (by omega)
      obtain ⟨k', q1, q2, q3⟩ := cntB_pos hh
      have hL := mask_next hO.back hc hol hpre (hF.ch k k' hkm q1 hw' q2)
      have := (h.cnt k' q2).1 hL
      omega
    obtain ⟨G', hG', hS⟩ := h.sim
    rw [hij] at hG
    rw [hG] at hG'; injection hG' with hG'; subst hG'
    have hg1 := hG1 rfl
    rw [hij] at hg1
    have hcn2 : ∀ k', ws[k']? = some true → ((L k' ∨ k' = k) ↔ cntB ws k' < j + 1) := fun k2' hw2 => by
      rw [h.cnt k2' hw2]
      constructor
      · rintro (q1 | rfl) <;> omega
      · intro hh
        by_cases h2 : cntB ws k2' < j
        · exact .inl h2
        · refine .inr ?_
          rcases Nat.lt_trichotomy k2' k with q1 | q1 | q1
          · have := cntB_mono q1 hw2; omega
          · exact q1
          · have := cntB_mono q1 hw'; omega
    rcases hwr with ⟨f, args, ats, g, us', vs', ts, hoc, hf, hts, hgo, hcall⟩ | ⟨x, y, t1, t2, ta, tb, hoc, hx, hy, happ⟩
    · have hnd : ∀ c, o.op ≠ .defer c := by rw [hoc]; simp
      refine wpIn_of hnd ?_
      obtain ⟨dst, op, ty, pos, after, guard⟩ := o
      simp only at hoc hop hd
      subst hoc
      obtain ⟨us, vs, e1, r1, r2⟩ := hop f (by simp [Op.operands, Call.operands]) _ hf
      have r3 := optL_ok (M := M) (ρ' := a.eval) _ _ (fun x hx t ht => hop x (by simp [Op.operands, Call.operands]; exact .inr (by simpa using hx)) t ht) hts
      have hrr : (execOp a.eval ⟨dst, .call ⟨.value f, args, ats⟩, ty, pos, after, guard⟩).run P M.w = .ok (.enter g (us ++ args.toList.map a.eval ++ vs).toArray) M.w := by
        simp only [execOp, resolve, Sem.run_bind, e1, Deferred.ofValue, Sem.run_pure, Result.andThen_ok, invoke]
        rw [run_goFunc _ _ _ hgo, ← map_arr]
        simp
      rw [hrr]
      refine ⟨fun hh => (by cases hh), callsIn_wide.2 ((hcall X0 M _ hS (RepL.append (RepL.append r1 r3) r2)).mono ?_)⟩
      rintro e w' ⟨u, t, H', M', rfl, rfl, ⟨rfl, rfl⟩, k2, k3, k4⟩
      exact hK _ M' (j + 1) k2 (h.next hO ho hs' hk hd k2 ⟨_, hg1, k3⟩ k4 hcn2)
    · have hnd : ∀ c, o.op ≠ .defer c := by rw [hoc]; simp
      refine wpIn_of hnd ?_
      obtain ⟨dst, op, ty, pos, after, guard⟩ := o
      simp only at hoc hop hd
      subst hoc
      have r1 := hop x (by simp [Op.operands, Call.operands]) _ hx
      have r2 := hop y (by simp [Op.operands, Call.operands]) _ hy
      obtain ⟨u, M', k1, k2, k3, k4⟩ := mAppend_ok (ty := ty) hT hS r1 r2 happ
      have hrr : (execOp a.eval ⟨dst, .call ⟨.builtin .append, #[x, y], #[t1, t2]⟩, ty, pos, after, guard⟩).run P M.w = .ok (.value u) M'.w := by simp [execOp, resolve, invoke, builtin, k1]
      rw [hrr]
      exact hK _ M' (j + 1) k2 (h.next hO ho hs' hk hd k2 ⟨_, hg1, k3⟩ k4 hcn2)
  | false =>
    have hcn : ∀ k', ws[k']? = some true → ((L k' ∨ k' = k) ↔ cntB ws k' < j) := fun k' hwk => by
      rw [← h.cnt k' hwk]
      exact ⟨fun hh => hh.resolve_right (fun e => by subst e; rw [hw'] at hwk; injection hwk with hwk; cases hwk), Or.inl⟩
    obtain ⟨G', hG', hS⟩ := h.sim
    have hsn := hF.sn j G' hG'
    have hlook : LookAt M (lookH Hm) := by
      intro b B O cells hb hcc
      refine Sim.look hS b B O cells hb ?_
      rw [lookH_c] at hcc
      rw [cells_some, ← hsn.2 b (by rw [hcc]; simp)]; exact hcc
    have hgd : ∀ g want d b, o.guard = some (g, want) → (l.toArray[g]?).bind (·.dst) = some d → (envAt (l.take m) r E k).get d = some (.v (.bool b)) → yielded l.toArray a.tmps g = some b := by
      intro g want d b hg hgd hb
      have hgd' : (l[g]?.bind fun x => x.dst) = some d := by simpa using hgd
      obtain ⟨u, h1, h2⟩ := hrd d _ (by simp [readsOf, Oper.looksAt, hg]; exact .inr hgd') hb
      obtain rfl := h2
      simp [yielded, hgd', h1]
    rcases hstp with ⟨h1, h2, g, want, d, x, hg, hgdst, hb, hne⟩ | ⟨hg, hst⟩
    · have hw : Region.wanted o (yielded l.toArray a.tmps) = false := by
        have hgd' : (l[g]?.bind fun x => x.dst) = some d := by simpa using hgdst
        obtain ⟨u, q1, q2⟩ := hrd d _ (by simp [readsOf, Oper.looksAt, hg]; exact .inr hgd') hb
        obtain rfl := q2
        have hy : yielded l.toArray a.tmps g = match u with | .bool b => some b | _ => none := by simp only [yielded, List.getElem?_toArray, hgd', Option.bind_some, q1]; cases u <;> rfl
        simp only [Region.wanted, hg, hy]
        cases u <;> first | rfl | skip
        rename_i b
        cases b <;> cases want <;> first | rfl | exact absurd rfl hne
      rw [hw]
      exact ⟨fun _ _ => trivial, hK _ M j (Evo.refl _ _) (h.next hO ho hs' hk hd (Evo.refl _ _) ⟨G', hG', hS⟩ (by rw [h1]; rfl) hcn)⟩
    · have hw : Region.wanted o (yielded l.toArray a.tmps) = true := by
        rcases hg with hg | ⟨g, want, d, hg, hgdst, hb⟩
        · simp [Region.wanted, hg]
        · have hy := hgd g want d want hg hgdst hb
          simp [Region.wanted, hg, hy]
      rw [hw, if_pos rfl]
      have hnd : ∀ c, o.op ≠ .defer c := by
        rcases hst with ⟨t, nb, hm, -⟩ | ⟨f, args, ats, g, fs, cs, ts, hoc, -⟩
        · exact opM_op hm
        · rw [hoc]; simp
      refine wpIn_of hnd ?_
      rcases hst with ⟨t, nb, hm, hst⟩ | ⟨f, args, ats, g, fs, cs, ts, hoc, hf, hts, hcall, -⟩
      · have hmk' := opM_ok (M := M) (ρ' := a.eval) hT hlook hop hm
        rcases hst with ⟨hst, hnb'⟩ | ⟨⟨e, cs⟩, rfl, hst, -⟩
        case inr =>
          obtain ⟨u, w', q1, q2, q3, q4⟩ := imm_new hS hmk' (opM_new hm)
          rw [q1]
          exact hK _ _ j q2 (h.next hO ho hs' hk hd q2 ⟨G', hG', hS.world q2 q3⟩ (by rw [hst]; exact q4) hcn)
        subst hst
        cases nb with
        | none =>
          obtain ⟨u, h1, h2⟩ := hmk'
          rw [h1]
          exact hK _ M j (Evo.refl _ _) (h.next hO ho hs' hk hd (Evo.refl _ _) ⟨G', hG', hS⟩ h2 hcn)
        | some p => rw [hnb'] at hnb; cases hnb
      · obtain ⟨dst, op, ty, pos, after, guard⟩ := o
        simp only at hoc hop hd
        subst hoc
        obtain ⟨us, vs, e1, r1, r2⟩ := hop f (by simp [Op.operands, Call.operands]) _ hf
        have r3 := optL_ok (M := M) (ρ' := a.eval) _ _ (fun x hx t ht => hop x (by simp [Op.operands, Call.operands]; exact .inr (by simpa using hx)) t ht) hts
        have hrr : (execOp a.eval ⟨dst, .call ⟨.value f, args, ats⟩, ty, pos, after, guard⟩).run P M.w = .ok (.enter g (us ++ args.toList.map a.eval ++ vs).toArray) M.w := by
          simp only [execOp, resolve, Sem.run_bind, e1, Deferred.ofValue, Sem.run_pure, Result.andThen_ok, invoke]
          rw [run_goFunc _ _ _ hcall.2.2.1, ← map_arr]
          simp
        rw [hrr]
        refine ⟨fun hh => (by cases hh), callsIn_wide.2 ((hcall.run X0 M _ hS.bnd hS.glo (RepL.append (RepL.append r1 r3) r2)).mono ?_)⟩
        rintro e w' ⟨u, rfl, k1, k2, k3⟩
        exact hK _ _ j k1 (h.next hO ho hs' hk hd k1 ⟨G', hG', hS.world k1 k3⟩ k2 hcn)
end
end
section
open Go.RowKit
section
variable {z : Bool} {P : Program} {tab : Tab} {n m kb lb : Nat} {l : List Oper} {E : Env} {H Hm : Hp} {Fs : List Hp} {r : List Stp} {ws : List Bool} {X0 : Nat → Prop} {M0 : Mp} {im : List Nat}
theorem JdC.fin [Dr] {L : Nat → Prop} {a : Act} {M : Mp} {j : Nat} {F' : Hp} (hO : OrdB l m) (hF : RunCF P tab im l m E Hm r Fs ws) (hlast : Fs[cntB ws ws.length]? = some F') (hlen : Fs.length = cntB ws ws.length + 1) (h : JdC n kb (l.take m) r Fs ws E X0 j L a M) (hL : ∀ k, k < (l.take m).length → L k) : St n kb (envAt (l.take m) r E (l.take m).length) F' X0 a M := by
  have hr := hF.rl
  have hdis : ∀ (i j : Nat) (oi oj : Oper), (l.take m)[i]? = some oi → (l.take m)[j]? = some oj → i ≠ j → ∀ d, oi.dst = some d → oj.dst ≠ some d := fun i j oi oj hi hj hij d hdi => (hO.pair j oj i oi hj hi hij d hdi).1
  obtain ⟨G, hG, hS⟩ := h.sim
  have hjl := (List.getElem?_eq_some_iff.1 hG).1
  have hje : j = cntB ws ws.length := by
    refine Nat.le_antisymm (by omega) (Nat.le_of_not_lt fun hh => ?_)
    obtain ⟨k', q1, q2, q3⟩ := cntB_pos hh
    have := (h.cnt k' q2).1 (hL k' (by rw [← hF.wl]; exact q1))
    omega
  rw [hje, hlast] at hG
  injection hG with hG; subst hG
  refine ⟨fun d t ht => ?_, h.sz, h.df, h.ge, hS⟩
  obtain ⟨g1, g2⟩ := env_get (E := E) (d := d) hr (Nat.le_refl _) hdis
  by_cases hw : ∃ j oj, j < (l.take m).length ∧ (l.take m)[j]? = some oj ∧ oj.dst = some d
  · obtain ⟨j, oj, hj, hoj, hdj⟩ := hw
    have hs : r[j]? = some r[j] := List.getElem?_eq_getElem (by omega)
    rw [g1 j oj _ hj hoj hs hdj] at ht
    injection ht with ht; subst ht
    exact h.slot j oj _ d hoj hs (hL j hj) hdj
  · rw [g2 fun j oj hj hoj hdj => hw ⟨j, oj, hj, hoj, hdj⟩] at ht
    exact h.old d t ht fun j oj hoj _ hdj => hw ⟨j, oj, (List.getElem?_eq_some_iff.1 hoj).1, hoj, hdj⟩
theorem draw_anyC [Dr] (hT : TabOk P tab) (hO : OrdB l m) (hd : dstB n l = true) (hF : RunCF P tab im l m E Hm r Fs ws) {F' : Hp} (hlast : Fs[cntB ws ws.length]? = some F') (hlen : Fs.length = cntB ws ws.length + 1)
    {r0 : Option Nat} {Q : Exit → Act → World → Prop} (hQ : ∀ a M, Evo X0 M0 M → St n kb (envAt (l.take m) r E (l.take m).length) F' X0 a M → wpListIn (FW r0) 0 P l.toArray Q (l.drop m) a M.w) :
    ∀ (fuel : Nat) (listed : Array Bool) (a : Act) (M : Mp) (j : Nat), leftB l listed ≤ fuel → listed.size = l.length → Closed l (lsd listed) → (∀ k, m ≤ k → ¬ lsd listed k) → Evo X0 M0 M → JdC n kb (l.take m) r Fs ws E X0 j (lsd listed) a M → wpAnyIn (FW r0) 0 P .any l.toArray Q fuel listed a M.w := by
  have hml : (l.take m).length = m := by rw [List.length_take]; have := hO.le; omega
  intro fuel
  have fin : ∀ (fuel : Nat) (listed : Array Bool) (a : Act) (M : Mp) (j : Nat), leftB l listed ≤ fuel → listed.size = l.length → (∀ k, m ≤ k → ¬ lsd listed k) → (∀ k, k < m → lsd listed k) → Evo X0 M0 M → JdC n kb (l.take m) r Fs ws E X0 j (lsd listed) a M → wpAnyIn (FW r0) 0 P .any l.toArray Q fuel listed a M.w := by
    intro fuel listed a M j hf hsz hno hall hE hJ
    refine tail_any hO fuel listed m a M.w ?_ hsz (Nat.le_refl _) hO.le (fun k => ⟨fun h => ?_, hall k⟩) (hQ a M hE (hJ.fin hO hF hlast hlen fun k hk => hall k (by omega)))
    · have h1 : leftB l listed = l.length - m := by
        unfold leftB
        have e : List.range l.length = List.range m ++ (List.range (l.length - m)).map (m + ·) := by
          rw [← List.range_add, show m + (l.length - m) = l.length from by have := hO.le; omega]
        rw [e, List.countP_append]
        have e1 : (List.range m).countP (fun k => !listed.getD k false) = 0 := by
          rw [List.countP_eq_zero]
          intro k hk
          have := hall k (List.mem_range.1 hk)
          unfold lsd at this
          simpa using this
        have e2 : ((List.range (l.length - m)).map (m + ·)).countP (fun k => !listed.getD k false) = l.length - m := by
          rw [List.countP_eq_length.2]
          · simp
          · intro k hk
            rw [List.mem_map] at hk
            obtain ⟨q, -, rfl⟩ := hk
            have := hno (m + q) (by omega)
            unfold lsd at this
            simpa using this
        omega
      omega
    · exact Nat.lt_of_not_le fun hk => hno k hk h
  induction fuel with
  | zero =>
    intro listed a M j hf hsz hc hno hE hJ
    by_cases hall : ∀ k, k < m → lsd listed k
    · exact fin 0 listed a M j hf hsz hno hall hE hJ
    · exfalso
      have h0 : leftB l listed = 0 := by omega
      unfold leftB at h0
      rw [List.countP_eq_zero] at h0
      apply hall
      intro k hk
      have := h0 k (List.mem_range.2 (by have := hO.le; omega))
      unfold lsd
      simpa using this
  | succ fuel ih =>
    intro listed a M j hf hsz hc hno hE hJ
    by_cases hall : ∀ k, k < m → lsd listed k
    · exact fin _ listed a M j hf hsz hno hall hE hJ
    · have hnext : ∃ i o, i < m ∧ l[i]? = some o ∧ ¬ lsd listed i ∧ ∀ e ∈ o.after, Region.binds .any e = true → lsd listed e.on := by
        have hex : ∃ k, k < m ∧ ¬ lsd listed k := by
          apply Classical.byContradiction
          intro h
          exact hall fun k hk => Classical.byContradiction fun hn => h ⟨k, hk, hn⟩
        obtain ⟨i, ⟨h1, h2⟩, hmin⟩ := least_nat hex
        have hile : i < l.length := by have := hO.le; omega
        have ho : l[i]? = some l[i] := List.getElem?_eq_getElem hile
        refine ⟨i, _, h1, ho, h2, fun e he hb => ?_⟩
        have hlt := back_at l 0 i _ hO.back ho e he hb
        exact Classical.byContradiction fun hn => by have := hmin e.on ⟨by omega, hn⟩; omega
      refine ⟨fun hr0 => ?_, fun i hi => ?_⟩
      · obtain ⟨i, o, h1, h2, h3, h4⟩ := hnext
        have := ready_of hsz h2 h3 h4
        rw [hr0] at this; cases this
      · obtain ⟨o, ho, hn, hp⟩ := ready_facts hsz hi
        have hil := (List.getElem?_eq_some_iff.1 ho).1
        have him : i < m := by
          refine Nat.lt_of_not_le fun hmi => ?_
          apply hall
          intro k hk
          exact mask_next hO.back hc ho hp (hO.full i hmi hil k (by omega))
        have hop : (l.take m)[i]? = some o := by rw [List.getElem?_take, if_pos him]; exact ho
        have hdo : ∀ d, o.dst = some d → d < n := fun d hdd => by
          unfold dstB at hd
          rw [List.all_eq_true] at hd
          have := hd o (List.mem_of_getElem? ho)
          rw [hdd] at this; simpa using this
        refine JdC.step hT hO hF hJ hc hop hn hp hdo fun a' M' j' hE' hJ' => ?_
        have hiff : ∀ k, lsd (listed.setIfInBounds i true) k ↔ lsd listed k ∨ k = i := lsd_set (by omega)
        have hfun : lsd (listed.setIfInBounds i true) = fun k => lsd listed k ∨ k = i := funext fun k => propext (hiff k)
        refine ih _ a' M' j' ?_ (by simpa using hsz) (fun k ok hok hk e he hb => ?_) (fun k hk h => ?_) (hE.trans hE') (by rw [hfun]; exact hJ')
        · have := leftB_set hsz hil hn; omega
        · rw [hiff] at hk ⊢
          rcases hk with hk | rfl
          · exact .inl (hc k ok hok hk e he hb)
          · rw [ho] at hok; injection hok with hok; subst hok; exact .inl (hp e he hb)
        · rcases (hiff k).1 h with h | h
          · exact hno k hk h
          · omega
def cchB (l : List Oper) (m : Nat) (ws : List Bool) : Bool := (List.range m).all fun k => (List.range k).all fun j => !(ws.getD k false && ws.getD j false) || ((masks l []).getD k 0).testBit j
theorem cch_at {ws : List Bool} (h : cchB l m ws = true) {k j : Nat} (hk : k < m) (hj : j < k) (h1 : ws[k]? = some true) (h2 : ws[j]? = some true) : ((masks l []).getD k 0).testBit j = true := by
  unfold cchB at h
  rw [List.all_eq_true] at h
  have h := h k (List.mem_range.2 hk)
  rw [List.all_eq_true] at h
  have h := h j (List.mem_range.2 hj)
  simpa [List.getD_eq_getElem?_getD, h1, h2] using h
theorem VC.drawC [Dr] {id : Nat} {QT : Exit → Env → Hp → Prop} (hT : TabOk P tab) (im : List Nat) (m : Nat) (hm : P.follows .mixedOrders = true) (hB : drawB n m l = true) (wd : List Bool) (hch : cchB l m wd = true) (hsn : seenL Hm H)
    (h : ∃ r fs E' F', RunC P tab im l.toArray Hm (l.take m) E H r fs wd E' F' ∧ vcSeq P tab im (l.map (·.dst)) (l.drop m) E' F' (QT .normal)) : VC z P n lb (.region id l.toArray true) QT E H := by
  intro X0 M a r0 kb hz hs
  obtain ⟨hO, hd⟩ := ord_of hB
  obtain ⟨r, fs, E', F', hrun, hk⟩ := h
  obtain ⟨h1, h2, h3, h4, h5, h6, h7, h8⟩ := runC_at hrun hsn
  have hF : RunCF P tab im l m E Hm r (H :: fs) wd := ⟨h1, h2, h7, h5, h8, fun k j hk hj q1 q2 => cch_at hch hk hj q1 q2⟩
  refine wpIn_region_any hm ?_
  let M1 : Mp := ⟨M.β, M.X, { M.w with drawn := M.w.drawn + 1 }⟩
  have hE1 : Evo X0 M M1 := ⟨fun _ _ h => h, fun _ _ h => h, fun _ _ _ => rfl, fun _ _ h => h, rfl, ⟨rfl, fun _ => Nat.le_succ _⟩, rfl, Nat.le_refl _⟩
  have hs1 : St n kb E H X0 a M1 := ⟨fun d t ht => by obtain ⟨u, q1, q2⟩ := hs.tm d t ht; exact ⟨u, q1, Rep.stays hE1.stays _ _ q2⟩, hs.sz, hs.df.evo hE1, hs.ge, hs.sim.world hE1 fun _ _ => rfl⟩
  have hno : ∀ k, ¬ lsd (Array.replicate l.toArray.size false) k := fun k hk => by
    unfold lsd at hk
    by_cases hlt : k < l.length
    · simp [hlt] at hk
    · simp [hlt] at hk
  have := draw_anyC (r0 := r0) (X0 := X0) (M0 := M) (Q := Lift n kb lb X0 M QT) hT hO hd hF (by rw [← h3]; exact h6) (by rw [← h3]; rfl) (fun a' M' hE' hs' => by
    rw [← h4] at hs'
    refine vcSeq_ok (im := im) hT _ ?_ hs' (fun E2 H2 a2 M2 k1 k2 k3 => ⟨E2, H2, M2, k1, rfl, (hE'.trans k2).toK lb, k3⟩) hk
    unfold dstB at hd ⊢
    rw [List.all_eq_true] at hd ⊢
    exact fun o ho => hd o (List.mem_of_mem_drop ho)) l.toArray.size (Array.replicate l.toArray.size false) a M1 0 (Nat.le_trans List.countP_le_length (by simp)) (by simp) (fun k o _ hk => absurd hk (hno k)) (fun k _ => hno k) hE1
    ⟨⟨H, rfl, hs1.sim⟩, fun k o s d _ _ hk => absurd hk (hno k), fun d t ht _ => hs1.tm d t ht, hs1.sz, hs1.df, hs1.ge, fun k _ => ⟨fun hk => absurd hk (hno k), fun hh => by omega⟩⟩
  exact this
end
def VD [Dr] (P : Program) (tab : Tab) (im : List Nat) (ops : Array Oper) (Hm : Hp) (l : List Oper) (wd : List Bool) (E : Env) (F : Hp) (K : Env → Hp → Prop) : Prop :=
  ∀ E2, Sub E E2 → ∃ r fs E' F', RunC P tab im ops Hm l E2 F r fs wd E' F' ∧ ∃ E1, Sub E1 E' ∧ K E1 F'
section
variable {z : Bool} {P : Program} {tab : Tab} {n lb : Nat} {im : List Nat} {ops : Array Oper} {l : List Oper} {E : Env} {Hm F : Hp} {K : Env → Hp → Prop} {wd : List Bool}
theorem VD.nil [Dr] (h : K E F) : VD P tab im ops Hm [] [] E F K := fun E2 he => ⟨[], [], E2, F, .nil _ _, E, he, h⟩
theorem VD.meek [Dr] {d : Nat} {op : Op} {ty : TypeId} {pos : String} {after : Array Edge} {t : T} (h : opM tab (lookH Hm) Hm.length E.opd op = some (t, none)) (k : VD P tab im ops Hm l wd ((d, t) :: E) F K) : VD P tab im ops Hm (⟨some d, op, ty, pos, after, none⟩ :: l) (false :: wd) E F K := fun E2 he => by
  obtain ⟨r, fs, E', F', h1, h2⟩ := k _ (he.put d t)
  exact ⟨⟨t, none⟩ :: r, fs, E', F', .one (s := ⟨t, none⟩) (.inr ⟨.inl rfl, .inl ⟨t, none, opM_mono (fun x s hx => he.opd hx) h, .inl ⟨rfl, rfl⟩⟩⟩) rfl h1, h2⟩
theorem VD.call [Dr] {d : Nat} {ty : TypeId} {pos : String} {after : Array Edge} {f : Operand} {args : Array Operand} {ats : Array TypeId} {g : FuncId} {us vs ts : List T} {t : T} {F1 : Hp} (hf : E.opd f = some (.clo g us vs)) (ha : optL E.opd args.toList = some ts)
    (hc : CallT P g (us ++ ts ++ vs) F (fun u H' => u = t ∧ H' = F1)) (hs : seenL Hm F1) (k : VD P tab im ops Hm l wd ((d, t) :: E) F1 K) : VD P tab im ops Hm (⟨some d, .call ⟨.value f, args, ats⟩, ty, pos, after, none⟩ :: l) (true :: wd) E F K := fun E2 he => by
  obtain ⟨r, fs, E', F', h1, h2⟩ := k _ (he.put d t)
  exact ⟨⟨t, none⟩ :: r, F1 :: fs, E', F', .call (t := t) rfl (.inl ⟨f, args, ats, g, us, vs, ts, rfl, he.opd hf, optL_mono (fun x s hx => he.opd hx) _ _ ha, hc⟩) hs h1, h2⟩
theorem VD.app [Dr] {d : Nat} {ty : TypeId} {pos : String} {after : Array Edge} {x y : Operand} {t1 t2 : TypeId} {ta tb t : T} {F1 : Hp} (hx : E.opd x = some ta) (hy : E.opd y = some tb) (ha : mAppend tab F t1 t2 ta tb = some (t, F1)) (hs : seenL Hm F1) (k : VD P tab im ops Hm l wd ((d, t) :: E) F1 K) :
    VD P tab im ops Hm (⟨some d, .call ⟨.builtin .append, #[x, y], #[t1, t2]⟩, ty, pos, after, none⟩ :: l) (true :: wd) E F K := fun E2 he => by
  obtain ⟨r, fs, E', F', h1, h2⟩ := k _ (he.put d t)
  exact ⟨⟨t, none⟩ :: r, F1 :: fs, E', F', .call (t := t) rfl (.inr ⟨x, y, t1, t2, ta, tb, rfl, he.opd hx, he.opd hy, ha⟩) hs h1, h2⟩
theorem VD.newI [Dr] {d : Nat} {op : Op} {ty : TypeId} {pos : String} {after : Array Edge} {t : T} {p : Nat × List T} (h : opM tab (lookH Hm) Hm.length E.opd op = some (t, some p)) (k : VD P tab im ops Hm l wd ((d, immT t p.2) :: E) F K) : VD P tab im ops Hm (⟨some d, op, ty, pos, after, none⟩ :: l) (false :: wd) E F K := fun E2 he => by
  obtain ⟨r, fs, E', F', h1, h2⟩ := k _ (he.put d _)
  exact ⟨⟨immT t p.2, none⟩ :: r, fs, E', F', .one (s := ⟨immT t p.2, none⟩) (.inr ⟨.inl rfl, .inl ⟨t, some p, opM_mono (fun x s hx => he.opd hx) h, .inr ⟨p, rfl, rfl, rfl⟩⟩⟩) rfl h1, h2⟩
theorem VD.callP [Dr] {d : Nat} {ty : TypeId} {pos : String} {after : Array Edge} {f : Operand} {args : Array Operand} {ats : Array TypeId} {g : FuncId} {us vs ts : List T} {t : T} (hf : E.opd f = some (.clo g us vs)) (ha : optL E.opd args.toList = some ts)
    (hc : CallP P g (us ++ ts ++ vs) t) (k : VD P tab im ops Hm l wd ((d, t) :: E) F K) : VD P tab im ops Hm (⟨some d, .call ⟨.value f, args, ats⟩, ty, pos, after, none⟩ :: l) (false :: wd) E F K := fun E2 he => by
  obtain ⟨r, fs, E', F', h1, h2⟩ := k _ (he.put d t)
  exact ⟨⟨t, none⟩ :: r, fs, E', F', .one (s := ⟨t, none⟩) (.inr ⟨.inl rfl, .inr ⟨f, args, ats, g, us, vs, ts, rfl, he.opd hf, optL_mono (fun x s hx => he.opd hx) _ _ ha, hc, rfl⟩⟩) rfl h1, h2⟩
end
section
variable {z : Bool} {P : Program} {tab : Tab} {n lb : Nat} {E : Env} {H : Hp} {QT : Exit → Env → Hp → Prop}
theorem VC.drwCN [Dr] {id : Nat} {l l2 : List Oper} (hT : TabOk P tab) (im : List Nat) (l1 : List Oper) (Hm : Hp) (wd : List Bool) (hl : l = l1 ++ l2) (hm : P.follows .mixedOrders = true) (hB : drawB n l1.length l = true) (hch : cchB l l1.length wd = true) (hsn : seenL Hm H) (h : VD P tab im l.toArray Hm l1 wd E H fun E H => VX false P tab im (l.map (·.dst)) l2 E H (QT .normal)) : VC z P n lb (.region id l.toArray true) QT E H := by
  have e1 : l.take l1.length = l1 := by rw [hl, List.take_left]
  have e2 : l.drop l1.length = l2 := by rw [hl, List.drop_left]
  obtain ⟨r, fs, E', F', h1, E1, h3, h4⟩ := h E (Sub.refl E)
  refine VC.eqv (VC.drawC hT im l1.length hm hB wd hch hsn ⟨r, fs, E', F', by rw [e1]; exact h1, ?_⟩)
  rw [e2]
  exact h4 E' h3
theorem VC.drwC [Dr] {id : Nat} {l l2 : List Oper} {c : Code} (hT : TabOk P tab) (im : List Nat) (l1 : List Oper) (Hm : Hp) (wd : List Bool) (hl : l = l1 ++ l2) (hm : P.follows .mixedOrders = true) (hB : drawB n l1.length l = true) (hch : cchB l l1.length wd = true) (hsn : seenL Hm H) (h : VD P tab im l.toArray Hm l1 wd E H fun E H => VX false P tab im (l.map (·.dst)) l2 E H fun E H => VC z P n lb c QT E H) : VC z P n lb (.seq (.region id l.toArray true) c) QT E H := VC.seq (VC.drwCN hT im l1 Hm wd hl hm hB hch hsn h)
end
theorem seen_nil {F : Hp} : seenL [] F := ⟨Nat.zero_le _, fun b hb => absurd (by simp [blkH]) hb⟩
theorem seen_same {x : Blk} {a b : Hp} (h : seenL a b) : seenL (x :: a) (x :: b) := ⟨by have := h.1; simp; omega, fun c hc => by cases c with | zero => rfl | succ c => exact h.2 c hc⟩
theorem seen_dead {x : Blk} {a b : Hp} (h : seenL a b) : seenL (.d :: a) (x :: b) := ⟨by have := h.1; simp; omega, fun c hc => by cases c with | zero => exact absurd rfl hc | succ c => exact h.2 c hc⟩
end
section
open Go.ChangeShapes Go.WideShapes Go.ChangeAt Go.RowKit Go.WideElems
inductive Sh where
  | int (k : IntKind)
  | bool
  | str
  | st (l : List Sh)
  | sl (e : Sh)
mutual
def Sh.fits (P : Program) : Sh → TypeId → Bool
  | .int k, t => match P.underlying t with | some (.int k') => decide (k' = k) | _ => false
  | .bool, t => match P.underlying t with | some .bool => true | _ => false
  | .str, t => match P.underlying t with | some .string => true | _ => false
  | .st l, t => match P.underlying t with | some (.struct fs) => Sh.fitsL P l fs.toList 0 (P.cellsOf t) | _ => false
  | .sl e, t => match P.underlying t with | some (.slice u) => Sh.fits P e u && decide (0 < P.cellsOf u) && decide (P.cellsOf t = 1) | _ => false
def Sh.fitsL (P : Program) : List Sh → List Field → Nat → Nat → Bool
  | [], [], o, n => o == n
  | s :: l, f :: fs, o, n => f.offset == o && Sh.fits P s f.type && Sh.fitsL P l fs (o + P.cellsOf f.type) n
  | _, _, _, _ => false
end
def nth (p : List T → Prop) : Nat → List T → Prop
  | 0, xs => xs = []
  | n + 1, xs => ∃ a b, xs = a ++ b ∧ p a ∧ nth p n b
mutual
def Sh.wt : Sh → List T → Prop
  | .int k, ts => ∃ n, ts = [.v (.int k n)] ∧ (Lit.int k n).wf = true
  | .bool, ts => ∃ b, ts = [.v (.bool b)]
  | .str, ts => ∃ s : ByteArray, ts = [.v (.string s)] ∧ s.size ≤ maxLen
  | .st l, ts => Sh.wtL l ts
  | .sl e, ts => ∃ xs n, ts = [.islc xs n none] ∧ n ≤ maxLen ∧ nth (Sh.wt e) n xs
def Sh.wtL : List Sh → List T → Prop
  | [], ts => ts = []
  | s :: l, ts => ∃ a b, ts = a ++ b ∧ Sh.wt s a ∧ Sh.wtL l b
end
def inW (β : Nat → Option (Option (Nat × Nat))) (W : World) : Mp := ⟨β, fun _ => False, W⟩
theorem RepA.app {M : Mp} : ∀ {ts ss : List T} {a : Array Value} {j : Nat}, RepA M ts a j → RepA M ss a (j + ts.length) → RepA M (ts ++ ss) a j
  | [], ss, a, j, _, h => h
  | t :: ts, ss, a, j, ⟨u, h1, h2, h3⟩, h => ⟨u, h1, h2, RepA.app h3 (by rw [show j + 1 + ts.length = j + (t :: ts).length from by rw [List.length_cons]; omega]; exact h)⟩
theorem cell_block {W : World} {B o : Nat} {v : Value} (h : W.cell? ⟨B, o, none⟩ = some v) : ∃ a e f, W.heap[B]? = some (.cells a e f) := by
  unfold World.cell? at h
  split at h
  · rename_i c e f hh
    exact ⟨c, e, f, hh⟩
  · cases h
theorem cell_inW {W : World} {B o : Nat} {a : Array Value} {e : TypeId} {f : Nat × Nat} (h : W.heap[B]? = some (.cells a e f)) : W.cell? ⟨B, o, none⟩ = a[o]? := by
  unfold World.cell?
  rw [h]
  rfl
theorem add_n (B o i : Nat) : (Addr.add ⟨B, o, none⟩ i) = ⟨B, o + i, none⟩ := by
  unfold Addr.add
  split
  · subst_vars; rfl
  · rfl
section
variable {H : Type} {enc : TypeId × Value → H} {P : Program} {W : World} {sp : Nat → Bool} {held : Bool} {β : Nat → Option (Option (Nat × Nat))}
mutual
theorem open_sh : ∀ (s : Sh) {t : TypeId} {fuel : Nat} {cs : List Value} {x : DataW H × List MemPlace}, s.fits P t = true → DataW.trod enc P W 0 sp held fuel t cs = some x → cs.length = P.cellsOf t → ∃ ts, RepL (inW β W) ts cs ∧ s.wt ts
  | .int k, t, fuel, cs, x, hs, h, hl => by
    unfold Sh.fits at hs
    split at hs
    · rename_i k' hu
      obtain rfl : k' = k := of_decide_eq_true hs
      obtain ⟨n, rfl, _, hw⟩ := DataW.trod_int hu h
      exact ⟨[.v (.int k' n)], ⟨_, _, rfl, rfl, rfl⟩, n, rfl, hw⟩
    · cases hs
  | .bool, t, fuel, cs, x, hs, h, hl => by
    unfold Sh.fits at hs
    split at hs
    · rename_i hu
      cases fuel with
      | zero => simp [DataW.trod] at h
      | succ n =>
        unfold DataW.trod at h
        rw [hu] at h
        split at h <;> simp_all
        exact ⟨[.v (.bool _)], ⟨_, _, rfl, rfl, rfl⟩, _, rfl⟩
    · cases hs
  | .str, t, fuel, cs, x, hs, h, hl => by
    unfold Sh.fits at hs
    split at hs
    · rename_i hu
      obtain ⟨s, rfl, _, hw⟩ := DataW.trod_string hu h
      exact ⟨[.v (.string s)], ⟨_, _, rfl, rfl, rfl⟩, s, rfl, hw⟩
    · cases hs
  | .st l, t, fuel, cs, x, hs, h, hl => by
    unfold Sh.fits at hs
    split at hs
    · rename_i fs hu
      obtain ⟨xs, n, -, -, hc, hx, hf⟩ := DataW.trod_struct hu h
      have := open_shL l (fs := fs.toList) (o := 0) (n := P.cellsOf t) (cs := cs) (m := n) hs hc (fun f hm => by
        obtain ⟨i, hi⟩ := List.getElem?_of_mem hm
        have hi2 : fs[i]? = some f := by simpa using hi
        have h1 := hf i f hi2
        have hlt : i < xs.length := by rw [hx]; exact (Array.getElem?_eq_some_iff.1 hi2).1
        exact ⟨xs[i], by rw [h1, List.getElem?_eq_getElem hlt]⟩)
      rw [List.drop_zero] at this
      exact this
    · cases hs
  | .sl e, t, fuel, cs, x, hs, h, hl => by
    unfold Sh.fits at hs
    split at hs
    · rename_i u hu
      simp only [Bool.and_eq_true, decide_eq_true_eq] at hs
      obtain ⟨hs, -⟩ := hs
      rcases DataW.trod_slice hu h with ⟨rfl, -⟩ | ⟨a, len, cap, elems, rest, m, -, rfl, -, -, hle, hcap, hlen, hel, -, -⟩
      · exact ⟨[.islc [] 0 none], ⟨_, _, rfl, ⟨none, 0, rfl, Nat.le_refl _, Nat.zero_le _, fun q hq => (by cases hq), .inl ⟨rfl, rfl⟩⟩, rfl⟩, [], 0, rfl, Nat.zero_le _, rfl⟩
      · by_cases hn : len = 0
        · subst hn
          exact ⟨[.islc [] 0 none], ⟨_, _, rfl, ⟨some a, cap, rfl, Nat.zero_le _, hcap, fun q hq => (by cases hq), .inl ⟨rfl, rfl⟩⟩, rfl⟩, [], 0, rfl, Nat.zero_le _, rfl⟩
        · have h0 := hel 0 (by omega)
          have hsome : ∀ i, i < len → ∃ cs' y, W.cells? 0 (a.add (i * P.cellsOf u)) (P.cellsOf u) = some cs' ∧ DataW.trod enc P W 0 sp held m u cs' = some y := fun i hi => by
            have hq := hel i hi
            rw [List.getElem?_eq_getElem (by omega), Option.bind_eq_some_iff] at hq
            obtain ⟨cs', h1, h2⟩ := hq
            exact ⟨cs', _, h1, h2⟩
          obtain ⟨ab, ao, asx⟩ := a
          obtain ⟨cs0, y0, c1, -⟩ := hsome 0 (by omega)
          obtain ⟨-, c2, c3⟩ := World.cells?_some c1
          have c4 := c3 0 hs.2
          rw [List.getElem?_eq_getElem (by omega)] at c4
          have hspot : asx = none := by simpa [Addr.add] using World.cell?_spot c4
          subst hspot
          rw [add_n, add_n] at c4
          obtain ⟨arr, e1, f1, hB⟩ := cell_block c4
          have build : ∀ n i, i + n ≤ len → ∃ xs, nth e.wt n xs ∧ RepA (inW β W) xs arr (ao + i * P.cellsOf u) := by
            intro n
            induction n with
            | zero => exact fun i _ => ⟨[], rfl, trivial⟩
            | succ n ih =>
              intro i hi
              obtain ⟨xs, k1, k2⟩ := ih (i + 1) (by omega)
              obtain ⟨cs', y, g1, g2⟩ := hsome i (by omega)
              obtain ⟨-, g3, g4⟩ := World.cells?_some g1
              obtain ⟨ts, r1, r2⟩ := open_sh e hs.1 g2 g3
              have hlen' : ts.length = P.cellsOf u := by rw [← r1.length, g3]
              refine ⟨ts ++ xs, ⟨ts, xs, rfl, r2, k1⟩, RepA.app (repA_of fun j tj hj => ?_) (by rw [hlen', Nat.add_assoc, ← Nat.succ_mul]; exact k2)⟩
              obtain ⟨uj, q1, q2⟩ := r1.get j tj hj
              have hjl : j < P.cellsOf u := by rw [← g3]; exact (List.getElem?_eq_some_iff.1 q1).1
              refine ⟨uj, ?_, q2⟩
              rw [← q1, ← g4 j hjl, add_n, add_n, cell_inW hB]
          obtain ⟨xs, k1, k2⟩ := build len 0 (by omega)
          rw [Nat.zero_mul, Nat.add_zero] at k2
          refine ⟨[.islc xs len none], ⟨_, _, rfl, ⟨_, cap, rfl, hle, hcap, fun q hq => (by cases hq), .inr ⟨ab, ao, arr, rfl, ⟨fun hx => hx, e1, f1, hB⟩, k2⟩⟩, rfl⟩, xs, len, rfl, by omega, k1⟩
    · cases hs
theorem open_shL : ∀ (l : List Sh) {fs : List Field} {o n m : Nat} {cs : List Value}, Sh.fitsL P l fs o n = true → cs.length = n → (∀ f ∈ fs, ∃ x, DataW.trod enc P W 0 sp held m f.type ((cs.drop f.offset).take (P.cellsOf f.type)) = some x) → ∃ ts, RepL (inW β W) ts (cs.drop o) ∧ Sh.wtL l ts
  | [], [], o, n, m, cs, hs, hl, h => by
    have e : o = n := by unfold Sh.fitsL at hs; simpa using hs
    exact ⟨[], by show cs.drop o = []; rw [List.drop_eq_nil_iff]; omega, rfl⟩
  | [], f :: fs, o, n, m, cs, hs, hl, h => by unfold Sh.fitsL at hs; cases hs
  | s :: l, [], o, n, m, cs, hs, hl, h => by unfold Sh.fitsL at hs; cases hs
  | s :: l, f :: fs, o, n, m, cs, hs, hl, h => by
    unfold Sh.fitsL at hs
    simp only [Bool.and_eq_true, beq_iff_eq] at hs
    obtain ⟨⟨h1, h2⟩, h3⟩ := hs
    have hle := fitsL_le l h3
    obtain ⟨x, hx⟩ := h f (by simp)
    obtain ⟨a, a1, a2⟩ := open_sh s h2 hx (by rw [List.length_take, List.length_drop]; omega)
    obtain ⟨b, b1, b2⟩ := open_shL l h3 hl (fun g hg => h g (by simp [hg]))
    refine ⟨a ++ b, ?_, a, b, rfl, a2, b2⟩
    have e : cs.drop o = (cs.drop f.offset).take (P.cellsOf f.type) ++ cs.drop (o + P.cellsOf f.type) := by
      rw [h1, ← List.drop_drop, List.take_append_drop]
    rw [e]
    exact RepL.append a1 b1
theorem fitsL_le : ∀ (l : List Sh) {fs : List Field} {o n : Nat}, Sh.fitsL P l fs o n = true → o ≤ n
  | [], [], o, n, hs => by unfold Sh.fitsL at hs; simp at hs; omega
  | [], f :: fs, o, n, hs => by unfold Sh.fitsL at hs; cases hs
  | s :: l, [], o, n, hs => by unfold Sh.fitsL at hs; cases hs
  | s :: l, f :: fs, o, n, hs => by
    unfold Sh.fitsL at hs
    simp only [Bool.and_eq_true, beq_iff_eq] at hs
    have := fitsL_le l hs.2
    omega
end
def Sh.tree : Sh → List T → T
  | .st _, ts => .agg ts
  | _, ts => ts.headD (.tup [])
theorem open_arg {b0 : Nat} (s : Sh) {t : TypeId} {v : Value} {d : DataW H} {p : List MemPlace} (hs : s.fits P t = true) (hv : Value.okWide P W .any b0 t v) (h : DataW.Trod enc P W 0 sp held t v d p) :
    ∃ ts, Rep (inW β W) (s.tree ts) v ∧ s.wt ts := by
  obtain ⟨fuel, hf⟩ := h
  cases s with
  | int k =>
    have hs' := hs
    unfold Sh.fits at hs
    split at hs
    · rename_i k' hu
      obtain ⟨n, rfl⟩ := okWide_int hu hv
      obtain ⟨n', e, _, hw⟩ := DataW.trod_int hu hf
      simp [Value.cells] at e
      obtain ⟨rfl⟩ := e
      obtain rfl : k' = k := of_decide_eq_true hs
      exact ⟨[.v (.int k' n)], rfl, n, rfl, hw⟩
    · cases hs
  | bool =>
    unfold Sh.fits at hs
    split at hs
    · rename_i hu
      obtain ⟨n, rfl⟩ := okWide_bool hu hv
      exact ⟨[.v (.bool n)], rfl, n, rfl⟩
    · cases hs
  | str =>
    unfold Sh.fits at hs
    split at hs
    · rename_i hu
      obtain ⟨n, rfl⟩ := okWide_string hu hv
      obtain ⟨n', e, _, hw⟩ := DataW.trod_string hu hf
      simp [Value.cells] at e
      subst e
      exact ⟨[.v (.string n)], rfl, n, rfl, hw⟩
    · cases hs
  | st l =>
    have hs' := hs
    unfold Sh.fits at hs
    split at hs
    · rename_i fs hu
      obtain ⟨cs, rfl, hsz⟩ := okWide_struct hu hv
      obtain ⟨ts, r1, r2⟩ := open_sh (β := β) (.st l) hs' hf (by rw [← hsz]; rfl)
      exact ⟨ts, ⟨cs.toList, rfl, r1⟩, r2⟩
    · cases hs
  | sl e =>
    have hs' := hs
    unfold Sh.fits at hs
    split at hs
    · rename_i u hu
      obtain ⟨a, len, cap, rfl⟩ := okWide_slice hu hv
      have hl1 : P.cellsOf t = 1 := by
        simp only [Bool.and_eq_true, decide_eq_true_eq] at hs
        exact hs.2
      obtain ⟨ts, r1, r2⟩ := open_sh (β := β) (.sl e) hs' hf (by rw [hl1]; rfl)
      obtain ⟨xs, n, rfl, h1, h2⟩ := r2
      obtain ⟨w, r, e1, e2, e3⟩ := r1
      have e1' : [Value.slice a len cap] = w :: r := e1
      injection e1' with e4 e5
      subst e4
      exact ⟨[.islc xs n none], e2, xs, n, rfl, h1, h2⟩
    · cases hs
theorem law_run [Dr] {f : FuncId} {args : List T} {vs : List Value} (h : CallP P f args (.v (.bool true))) (hr : RepL (inW (fun _ => none) W) args vs) (hG : Glo (inW (fun _ => none) W) := by exact fun g a h => (by cases h)) :
    Calls P f vs.toArray W (fun e W' => e = .returned (.bool true) ∧ Below W.heap.size W W') :=
  (h.run (fun _ => False) (inW (fun _ => none) W) vs (fun B hB => hB.elim) hG hr).mono fun e W' ⟨u, h1, h2, h3, h4⟩ => by
    have h3' : u = .bool true := h3
    subst h3'
    exact ⟨h1, ⟨h2.os, h2.tape.1, h2.output, h2.size, h4⟩⟩
end
end
section
def spaceA : Array Value := (Lib.asciiSpaceTab.map fun z => Value.int .u8 z).toArray
def glT : Nat → Option (Array Value) := fun g => if g = 1 then some spaceA else none
end
section
open Go.RowKit
instance looseI : Dr := ⟨False, glT⟩
end
section
open Go.RowKit
def cY : Cd UInt8 := ⟨1, fun b => [U8 (b.toNat : Int)], fun _ => rfl, fun _ => rfl, fun _ => rfl, by decide⟩
theorem cY_sz : cY.sz = 1 := rfl
abbrev strT (l : List UInt8) : T := .v (.string ⟨l.toArray⟩)
def cStr : Cd (List UInt8) := ⟨1, fun l => [strT l], fun _ => rfl, fun _ => rfl, fun _ => rfl, by decide⟩
theorem cStr_sz : cStr.sz = 1 := rfl
theorem au_sY {p : Prop} (h : p := by first | rfl | exact Nat.le_of_ble_eq_true rfl | omega | (simp only [encL_len, List.length_append, List.length_cons, List.length_nil, List.length_replicate, Nat.zero_add, cI_sz, cU_sz, cY_sz, cStr_sz]; omega) | (simp [encL_len, cI_sz, cU_sz, cY_sz, cStr_sz]; done) | (simp [encL_len, cI_sz, cU_sz, cY_sz, cStr_sz]; omega)) : p := h
theorem bytesT_Y : ∀ l : List UInt8, bytesT (encL cY l) = some l
  | [] => rfl
  | b :: l => by
    show (match bytesT (encL cY l) with | some l' => some (UInt8.ofNat ((b.toNat : Int)).toNat :: l') | none => none) = _
    rw [bytesT_Y l]
    simp
theorem src_c {α : Type} (c : Cd α) {tab : Tab} {look : Look} {t e sz n : Nat} {i : TyI} {l : List α} {q : Option Nat} (hn : n = l.length) (hT : tab t = some i) (hk : i.k = .sl e) (hz : sz = c.sz) : srcCells tab look t sz (.islc (encL c l) n q) = some (encL c l, n) := by
  subst hz hn
  unfold srcCells
  rw [hT]
  simp only [hk]
  rw [if_pos (by rw [encL_len]; exact Nat.le_refl _), List.take_of_length_le (by rw [encL_len]; exact Nat.le_refl _)]
section
variable {q : Bool} {P : Program} {tab : Tab} {im : List Nat} {ds : List (Option Nat)} {l : List Oper} {E : Env} {H Hm F : Hp} {K : Env → Hp → Prop} {d : Nat} {ty : TypeId} {pos : String} {after : Array Edge} {ops : Array Oper} {wd : List Bool}
theorem VX.maxX [Dr] {x y : Operand} {t1 t2 : TypeId} {a b : Int} (hx : E.opd x = some (I64 a)) (hy : E.opd y = some (I64 b)) (k : VX q P tab im ds l ((d, I64 (max a b)) :: E) H K) : VX q P tab im ds (⟨some d, .call ⟨.builtin .max, #[x, y], #[t1, t2]⟩, ty, pos, after, none⟩ :: l) E H K := by
  refine VX.meek (t := I64 (max a b)) ?_ k
  have e : (if b > a then b else a) = max a b := by rw [Int.max_def]; split <;> split <;> omega
  simp only [opM, optL, hx, hy, mMins, mMin, Bool.false_eq_true, if_false, e]
theorem VX.minX [Dr] {x y : Operand} {t1 t2 : TypeId} {a b : Int} (hx : E.opd x = some (I64 a)) (hy : E.opd y = some (I64 b)) (k : VX q P tab im ds l ((d, I64 (min a b)) :: E) H K) : VX q P tab im ds (⟨some d, .call ⟨.builtin .min, #[x, y], #[t1, t2]⟩, ty, pos, after, none⟩ :: l) E H K := by
  refine VX.meek (t := I64 (min a b)) ?_ k
  have e : (if b < a then b else a) = min a b := by rw [Int.min_def]; split <;> split <;> omega
  simp only [opM, optL, hx, hy, mMins, mMin, if_true, e]
theorem VX.strY [Dr] {t1 t2 e b o n : Nat} {x : Operand} {i j r : TyI} {c : Option Nat} {cs : List T} {xs : List UInt8} (hT : tab t1 = some i) (hk : i.k = .sl e) (hj : tab t2 = some j) (hj2 : j.k = .str) (he : tab e = some r) (hr : r.k = .int .u8) (hx : E.opd x = some (.slc b o n 1 c)) (hb : lookH H b = some cs) (hl : o + n ≤ cs.length) (hc : (cs.drop o).take n = encL cY xs)
    (k : VX q P tab im ds l ((d, strT xs) :: E) H K) : VX q P tab im ds (⟨some d, .convert t1 t2 x, ty, pos, after, none⟩ :: l) E H K := by
  refine VX.meek (t := strT xs) ?_ k
  simp only [opM, hx, mConv, hT, hj, hk, hj2, he, hr, hb]
  rw [if_pos hl, hc, bytesT_Y]
theorem VX.idxY [Dr] {t m : Nat} {x ix : Operand} {i : TyI} {xs : List UInt8} {k : IntKind} {z : Int} {b : UInt8} (hT : tab t = some i) (hk : i.k = .str) (hx : E.opd x = some (strT xs)) (hi : E.opd ix = some (.v (.int k z))) (hz : z = (m : Int)) (hb : xs[m]? = some b)
    (kk : VX q P tab im ds l ((d, U8 (b.toNat : Int)) :: E) H K) : VX q P tab im ds (⟨some d, .index t x ix, ty, pos, after, none⟩ :: l) E H K := by
  refine VX.meek (t := U8 (b.toNat : Int)) ?_ kk
  subst hz
  have hs : (⟨xs.toArray⟩ : ByteArray)[m]? = some b := by
    obtain ⟨h1, h2⟩ := List.getElem?_eq_some_iff.1 hb
    rw [getElem?_pos (⟨xs.toArray⟩ : ByteArray) m (by exact h1)]
    congr 1
  simp only [opM, hx, hi, mIndex, hT, hk, Int.natCast_nonneg, if_true, Int.toNat_natCast]
  rw [hs]
theorem str_beq (a b : List UInt8) : ((⟨a.toArray⟩ : ByteArray).toList == (⟨b.toArray⟩ : ByteArray).toList) = (a == b) := by
  have h : ∀ l : List UInt8, (⟨l.toArray⟩ : ByteArray).toList = l := fun l => by
    rw [show (⟨l.toArray⟩ : ByteArray).toList = (⟨l.toArray⟩ : ByteArray).data.toList from ByteArray.toList_eq _]
  rw [h, h]
end
end
section
open Go.RowKit
def clearL (g : List UInt8) (a b : Nat) : List UInt8 := g.take a ++ (List.replicate (b - a) 32 ++ g.drop (max a b))
theorem clearL_len (g : List UInt8) (a b : Nat) (h : b ≤ g.length) : (clearL g a b).length = g.length := by
  unfold clearL
  simp only [List.length_append, List.length_take, List.length_replicate, List.length_drop]
  omega
def Scr.clear (S : Scr) (a b : Nat) : Scr := { S with grid := clearL S.grid a b }
def Scr.keep (S : Scr) (l : List UInt8) : Scr :=
  if S.most = 0 then S else if S.most ≤ S.kept.length then { S with kept := S.kept.tail ++ [l] } else { S with kept := S.kept ++ [l] }
def Scr.withGrid (S : Scr) (g : List UInt8) : Scr := { S with grid := g }
theorem Scr.keep_grid (S : Scr) (l : List UInt8) : (S.keep l).grid = S.grid := by unfold Scr.keep; split; rfl; split <;> rfl
def Scr.scroll (S : Scr) : Scr :=
  (S.keep (S.grid.take S.cols)).withGrid (S.grid.drop S.cols ++ List.replicate S.cols 32)
def Scr.lineEnd (S : Scr) : Scr := if S.y + 1 < S.rows then { S with x := 0, y := S.y + 1 } else ({ S with x := 0 } : Scr).scroll
theorem Scr.Ok.keep {S : Scr} (ok : S.Ok) (l : List UInt8) : (S.keep l).Ok := by
  unfold Scr.keep
  split
  · exact ok
  · split
    · exact ⟨ok.c1, ok.c2, ok.r1, ok.r2, ok.m, ok.x, ok.y, ok.g, by have := ok.k; simp; omega, ok.s, ok.a, ok.b, ok.n⟩
    · exact ⟨ok.c1, ok.c2, ok.r1, ok.r2, ok.m, ok.x, ok.y, ok.g, by simp; omega, ok.s, ok.a, ok.b, ok.n⟩
theorem Scr.Ok.withGrid {S : Scr} (ok : S.Ok) (g : List UInt8) (h : g.length = S.grid.length) : (S.withGrid g).Ok :=
  ⟨ok.c1, ok.c2, ok.r1, ok.r2, ok.m, ok.x, ok.y, h.trans ok.g, ok.k, ok.s, ok.a, ok.b, ok.n⟩
theorem Scr.Ok.cg {S : Scr} (ok : S.Ok) : S.cols ≤ S.grid.length := by rw [ok.g]; exact Nat.le_mul_of_pos_right _ ok.r1
theorem Scr.Ok.g2 {S : Scr} (ok : S.Ok) : S.grid.length ≤ 8192 := by rw [ok.g]; exact Nat.mul_le_mul ok.c2 ok.r2
theorem Scr.Ok.scroll {S : Scr} (ok : S.Ok) : S.scroll.Ok :=
  (ok.keep _).withGrid _ (by rw [Scr.keep_grid]; have := ok.cg; simp; omega)
theorem Scr.Ok.pos {S : Scr} (ok : S.Ok) (x y : Nat) (hx : x ≤ S.cols) : ({ S with x := x, y := y } : Scr).Ok ↔ y < S.rows :=
  ⟨fun h => h.y, fun h => ⟨ok.c1, ok.c2, ok.r1, ok.r2, ok.m, hx, h, ok.g, ok.k, ok.s, ok.a, ok.b, ok.n⟩⟩
theorem Scr.Ok.lineEnd {S : Scr} (ok : S.Ok) : S.lineEnd.Ok := by
  unfold Scr.lineEnd
  split
  · exact (ok.pos 0 (S.y + 1) (Nat.zero_le _)).2 (by assumption)
  · exact Scr.Ok.scroll ((ok.pos 0 S.y (Nat.zero_le _)).2 ok.y)
theorem Scr.scroll_x (S : Scr) : S.scroll.x = S.x := by unfold Scr.scroll Scr.withGrid Scr.keep; split; rfl; split <;> rfl
theorem Scr.scroll_cols (S : Scr) : S.scroll.cols = S.cols := by unfold Scr.scroll Scr.withGrid Scr.keep; split; rfl; split <;> rfl
theorem Scr.lineEnd_x (S : Scr) : S.lineEnd.x = 0 := by unfold Scr.lineEnd; split; rfl; rw [Scr.scroll_x]
theorem Scr.lineEnd_cols (S : Scr) : S.lineEnd.cols = S.cols := by unfold Scr.lineEnd; split; rfl; rw [Scr.scroll_cols]
def Scr.blank (S : Scr) (n f t : Nat) : Scr :=
  if n = 0 then S.clear (S.y * S.cols + min S.x (S.cols - 1)) t else if n = 1 then S.clear f (S.y * S.cols + min S.x (S.cols - 1) + 1) else if n = 2 then S.clear f t else S
def Scr.put (S : Scr) (v : UInt8) : Scr := { S with grid := S.grid.set (S.y * S.cols + S.x) v, x := S.x + 1 }
def Scr.letter (S : Scr) (v : UInt8) : Scr := if S.x = S.cols then S.lineEnd.put v else S.put v
def Scr.plain (S : Scr) (v : UInt8) : Scr :=
  if 32 ≤ v.toNat ∧ v.toNat ≤ 126 then S.letter v
  else if v.toNat = 10 then S.lineEnd
  else if v.toNat = 13 then { S with x := 0 }
  else if v.toNat = 8 then { S with x := S.x - 1 }
  else if v.toNat = 9 then { S with x := max (min ((S.x / 8 + 1) * 8) (S.cols - 1)) S.x }
  else if v.toNat = 12 then { S.clear 0 S.grid.length with x := 0, y := 0 }
  else if v.toNat = 27 then { S with st := 1 }
  else S
def Scr.cmd (S : Scr) (k n m : Nat) : Scr :=
  if k = 65 then { S with y := S.y - max n 1 }
  else if k = 66 then { S with y := min (S.y + max n 1) (S.rows - 1) }
  else if k = 67 then { S with x := min (S.x + max n 1) (S.cols - 1) }
  else if k = 68 then { S with x := S.x - max n 1 }
  else if k = 72 then { S with y := min (max n 1) S.rows - 1, x := min (max m 1) S.cols - 1 }
  else if k = 74 then S.blank n 0 S.grid.length
  else if k = 75 then S.blank n (S.y * S.cols) ((S.y + 1) * S.cols)
  else S
def Scr.told (S : Scr) (v : Nat) : Scr :=
  if 48 ≤ v ∧ v ≤ 57 then (if S.num = 0 then { S with n0 := min (S.n0 * 10 + (v - 48)) 999 } else if S.num = 1 then { S with n1 := min (S.n1 * 10 + (v - 48)) 999 } else S)
  else if v = 59 then { S with num := min (S.num + 1) 2 }
  else ({ S with st := 0 } : Scr).cmd v S.n0 S.n1
def Scr.byte (S : Scr) (v : UInt8) : Scr :=
  if S.st = 1 then (if v.toNat = 91 then { S with st := 2, n0 := 0, n1 := 0, num := 0 } else { S with st := 0 })
  else if S.st = 2 then S.told v.toNat else S.plain v
def Scr.bytes (S : Scr) (l : List UInt8) : Scr := l.foldl Scr.byte S
theorem Scr.Ok.clear {S : Scr} (ok : S.Ok) (a b : Nat) (h : b ≤ S.grid.length) : (S.clear a b).Ok := { ok with g := (clearL_len S.grid a b h).trans ok.g }
theorem Scr.Ok.put {S : Scr} (ok : S.Ok) (v : UInt8) (h : S.x < S.cols) : (S.put v).Ok := { ok with x := h, g := (List.length_set).trans ok.g }
theorem Scr.Ok.pg {S : Scr} (ok : S.Ok) : S.y * S.cols + S.cols ≤ S.grid.length := by rw [ok.g, ← Nat.succ_mul, Nat.mul_comm]; exact Nat.mul_le_mul (Nat.le_refl _) ok.y
theorem Scr.Ok.blank {S : Scr} (ok : S.Ok) (n f t : Nat) (h : t ≤ S.grid.length) : (S.blank n f t).Ok := by
  have h1 := ok.pg
  have h2 := ok.c1
  unfold Scr.blank
  split
  · exact ok.clear _ _ h
  · split
    · exact ok.clear _ _ (by omega)
    · split
      · exact ok.clear _ _ h
      · exact ok
theorem Scr.Ok.plain {S : Scr} (ok : S.Ok) (v : UInt8) : (S.plain v).Ok := by
  have hx := ok.x
  have hc := ok.c1
  have hy := ok.y
  unfold Scr.plain
  split
  · unfold Scr.letter
    split
    · exact ok.lineEnd.put v (by rw [Scr.lineEnd_x, Scr.lineEnd_cols]; exact ok.c1)
    · exact ok.put v (by omega)
  split
  · exact ok.lineEnd
  split
  · exact { ok with x := Nat.zero_le _ }
  split
  · exact { ok with x := (by show S.x - 1 ≤ S.cols; omega) }
  split
  · exact { ok with x := (by show max (min ((S.x / 8 + 1) * 8) (S.cols - 1)) S.x ≤ S.cols; omega) }
  split
  · have := ok.clear 0 S.grid.length (Nat.le_refl _)
    exact { this with x := Nat.zero_le _, y := (by show 0 < S.rows; omega) }
  split
  · exact { ok with s := (by show 1 ≤ 2; omega) }
  · exact ok
theorem Scr.Ok.cmd {S : Scr} (ok : S.Ok) (k n m : Nat) : (S.cmd k n m).Ok := by
  have hx := ok.x
  have hc := ok.c1
  have hy := ok.y
  unfold Scr.cmd
  split
  · exact { ok with y := (by show S.y - max n 1 < S.rows; omega) }
  split
  · exact { ok with y := (by show min (S.y + max n 1) (S.rows - 1) < S.rows; omega) }
  split
  · exact { ok with x := (by show min (S.x + max n 1) (S.cols - 1) ≤ S.cols; omega) }
  split
  · exact { ok with x := (by show S.x - max n 1 ≤ S.cols; omega) }
  split
  · exact { ok with y := (by show min (max n 1) S.rows - 1 < S.rows; omega), x := (by show min (max m 1) S.cols - 1 ≤ S.cols; omega) }
  split
  · exact ok.blank _ _ _ (Nat.le_refl _)
  split
  · exact ok.blank _ _ _ (by have := ok.pg; rw [Nat.succ_mul]; exact this)
  · exact ok
theorem Scr.Ok.told {S : Scr} (ok : S.Ok) (v : Nat) : (S.told v).Ok := by
  unfold Scr.told
  split
  · split
    · exact { ok with a := (by show min _ 999 ≤ 999; omega) }
    split
    · exact { ok with b := (by show min _ 999 ≤ 999; omega) }
    · exact ok
  split
  · exact { ok with n := (by show min _ 2 ≤ 2; omega) }
  · exact Scr.Ok.cmd (S := { S with st := 0 }) { ok with s := (by show 0 ≤ 2; omega) } _ _ _
theorem Scr.Ok.byte {S : Scr} (ok : S.Ok) (v : UInt8) : (S.byte v).Ok := by
  unfold Scr.byte
  split
  · split
    · exact { ok with s := (by show 2 ≤ 2; omega), a := (by show 0 ≤ 999; omega), b := (by show 0 ≤ 999; omega), n := (by show 0 ≤ 2; omega) }
    · exact { ok with s := (by show 0 ≤ 2; omega) }
  split
  · exact ok.told _
  · exact ok.plain _
theorem Scr.Ok.bytes {S : Scr} (ok : S.Ok) (l : List UInt8) : (S.bytes l).Ok := by
  unfold Scr.bytes
  induction l generalizing S with
  | nil => exact ok
  | cons v l ih => exact ih (ok.byte v)
def Scr.row (S : Scr) (y : Int) : List UInt8 := if 0 ≤ y ∧ y < S.rows then (S.grid.drop (y.toNat * S.cols)).take S.cols else []
end
section
open Go.RowKit
set_option maxRecDepth 100000
theorem tyOk_of {P : Program} {t sz by_ : Nat} {zs : List Value} {zero : List T} {k : Kd} {eq : Bool} {D : TypeDesc} (h1 : ((P.info? t).map fun I => (I.size, I.bytes, I.zero.map fun z => z.cells.toList)) = some (sz, by_, some zs)) (h2 : P.underlying t = some D) (hz : zs.map T.v = zero) (hk : kdOk D k) (hl : zs.length = sz)
    (ha : (k.agg || sz == 1) = true) (hf : (match D with | .struct fs => fs.toList.all fun f => (P.info? f.type).isSome | _ => true) = true)
    (hag : ((P.info? t).bind fun I => I.zero.map fun z => z.isAggB) = some k.agg) (he : (!eq || (!P.stoodInHeld t && !P.eqGuardType P.depth t && (match D with | .struct fs => fs.toList.all fun f => f.name != "_" | _ => false))) = true) : TyOk P t ⟨sz, by_, zero, k, eq⟩ := by
  subst hz
  rw [Option.map_eq_some_iff] at h1
  obtain ⟨I, h3, h4⟩ := h1
  injection h4 with h4 h5; injection h5 with h5 h6
  rw [Option.map_eq_some_iff] at h6
  obtain ⟨z, h6, h7⟩ := h6
  refine ⟨⟨I, h3, h4, h5, z, h6, by rw [h7]⟩, ⟨D, h2, hk⟩, by simpa using hl, fun fs hfs => ?_, fun hag => ?_, ⟨I, z, h3, h6, by rw [h3, Option.bind_some, h6] at hag; simpa using hag⟩, fun he' => ?_⟩
  · rw [h2] at hfs; injection hfs with hfs; subst hfs; exact hf
  · rw [hag] at ha; simpa using ha
  · simp only at he'
    subst he'
    simp only [Bool.not_true, Bool.false_or, Bool.and_eq_true, Bool.not_eq_true'] at he
    obtain ⟨⟨e1, e2⟩, e3⟩ := he
    refine ⟨e1, e2, ?_⟩
    cases D <;> first | (cases e3; done) | skip
    rename_i fs
    refine ⟨fs, h2, fun f hf => ?_⟩
    rw [List.all_eq_true] at e3
    simpa using e3 f hf
theorem ty_1 : TyOk Tryd.prog 1 ⟨1, 8, [.v (.nilFunc)], .fn, false⟩ := tyOk_of (zs := [.nilFunc]) (by kernel_rfl) Tryd.underlying1 rfl trivial rfl rfl (by kernel_rfl) (by kernel_rfl) (by kernel_rfl)
theorem ty_2 : TyOk Tryd.prog 2 ⟨1, 8, [.v (.int .i64 0)], .int .i64, false⟩ := tyOk_of (zs := [.int .i64 0]) (by kernel_rfl) Tryd.underlying2 rfl rfl rfl rfl (by kernel_rfl) (by kernel_rfl) (by kernel_rfl)
theorem ty_3 : TyOk Tryd.prog 3 ⟨1, 8, [.v (.int .i64 0)], .int .i64, false⟩ := tyOk_of (zs := [.int .i64 0]) (by kernel_rfl) Tryd.underlying3 rfl rfl rfl rfl (by kernel_rfl) (by kernel_rfl) (by kernel_rfl)
theorem ty_4 : TyOk Tryd.prog 4 ⟨1, 1, [.v (.bool false)], .bool, false⟩ := tyOk_of (zs := [.bool false]) (by kernel_rfl) Tryd.underlying4 rfl trivial rfl rfl (by kernel_rfl) (by kernel_rfl) (by kernel_rfl)
theorem ty_5 : TyOk Tryd.prog 5 ⟨1, 1, [.v (.int .u8 0)], .int .u8, false⟩ := tyOk_of (zs := [.int .u8 0]) (by kernel_rfl) Tryd.underlying5 rfl rfl rfl rfl (by kernel_rfl) (by kernel_rfl) (by kernel_rfl)
theorem ty_6 : TyOk Tryd.prog 6 ⟨1, 1, [.v (.int .u8 0)], .int .u8, false⟩ := tyOk_of (zs := [.int .u8 0]) (by kernel_rfl) Tryd.underlying6 rfl rfl rfl rfl (by kernel_rfl) (by kernel_rfl) (by kernel_rfl)
theorem ty_7 : TyOk Tryd.prog 7 ⟨4, 24, [.v (.int .i64 0), .v (.int .i64 0), .v (.bool false), .v (.int .u8 0)], .st [(0, 2), (1, 3), (2, 4), (3, 6)], false⟩ := tyOk_of (zs := [.int .i64 0, .int .i64 0, .bool false, .int .u8 0]) (by kernel_rfl) Tryd.underlying7 rfl rfl rfl rfl (by kernel_rfl) (by kernel_rfl) (by kernel_rfl)
theorem ty_8 : TyOk Tryd.prog 8 ⟨4, 24, [.v (.int .i64 0), .v (.int .i64 0), .v (.bool false), .v (.int .u8 0)], .st [(0, 2), (1, 3), (2, 4), (3, 6)], false⟩ := tyOk_of (zs := [.int .i64 0, .int .i64 0, .bool false, .int .u8 0]) (by kernel_rfl) Tryd.underlying8 rfl rfl rfl rfl (by kernel_rfl) (by kernel_rfl) (by kernel_rfl)
theorem ty_9 : TyOk Tryd.prog 9 ⟨1, 16, [.v (.string ⟨#[]⟩)], .str, false⟩ := tyOk_of (zs := [.string ⟨#[]⟩]) (by kernel_rfl) Tryd.underlying9 rfl trivial rfl rfl (by kernel_rfl) (by kernel_rfl) (by kernel_rfl)
theorem ty_10 : TyOk Tryd.prog 10 ⟨1, 16, [.v (.string ⟨#[]⟩)], .str, false⟩ := tyOk_of (zs := [.string ⟨#[]⟩]) (by kernel_rfl) Tryd.underlying10 rfl trivial rfl rfl (by kernel_rfl) (by kernel_rfl) (by kernel_rfl)
theorem ty_11 : TyOk Tryd.prog 11 ⟨1, 16, [.v (.string ⟨#[]⟩)], .str, false⟩ := tyOk_of (zs := [.string ⟨#[]⟩]) (by kernel_rfl) Tryd.underlying11 rfl trivial rfl rfl (by kernel_rfl) (by kernel_rfl) (by kernel_rfl)
theorem ty_12 : TyOk Tryd.prog 12 ⟨1, 8, [.v (.int .u64 0)], .int .u64, false⟩ := tyOk_of (zs := [.int .u64 0]) (by kernel_rfl) Tryd.underlying12 rfl rfl rfl rfl (by kernel_rfl) (by kernel_rfl) (by kernel_rfl)
theorem ty_13 : TyOk Tryd.prog 13 ⟨2, 24, [.v (.string ⟨#[]⟩), .v (.int .u64 0)], .st [(0, 9), (1, 12)], false⟩ := tyOk_of (zs := [.string ⟨#[]⟩, .int .u64 0]) (by kernel_rfl) Tryd.underlying13 rfl rfl rfl rfl (by kernel_rfl) (by kernel_rfl) (by kernel_rfl)
theorem ty_14 : TyOk Tryd.prog 14 ⟨2, 24, [.v (.string ⟨#[]⟩), .v (.int .u64 0)], .st [(0, 9), (1, 12)], false⟩ := tyOk_of (zs := [.string ⟨#[]⟩, .int .u64 0]) (by kernel_rfl) Tryd.underlying14 rfl rfl rfl rfl (by kernel_rfl) (by kernel_rfl) (by kernel_rfl)
theorem ty_15 : TyOk Tryd.prog 15 ⟨1, 8, [.v (.pointer none)], .ptr 257, false⟩ := tyOk_of (zs := [.pointer none]) (by kernel_rfl) Tryd.underlying15 rfl rfl rfl rfl (by kernel_rfl) (by kernel_rfl) (by kernel_rfl)
theorem ty_16 : TyOk Tryd.prog 16 ⟨1, 8, [.v (.pointer none)], .ptr 260, false⟩ := tyOk_of (zs := [.pointer none]) (by kernel_rfl) Tryd.underlying16 rfl rfl rfl rfl (by kernel_rfl) (by kernel_rfl) (by kernel_rfl)
theorem ty_17 : TyOk Tryd.prog 17 ⟨1, 8, [.v (.pointer none)], .ptr 268, false⟩ := tyOk_of (zs := [.pointer none]) (by kernel_rfl) Tryd.underlying17 rfl rfl rfl rfl (by kernel_rfl) (by kernel_rfl) (by kernel_rfl)
theorem ty_18 : TyOk Tryd.prog 18 ⟨1, 8, [.v (.pointer none)], .st [(0, 17)], false⟩ := tyOk_of (zs := [.pointer none]) (by kernel_rfl) Tryd.underlying18 rfl rfl rfl rfl (by kernel_rfl) (by kernel_rfl) (by kernel_rfl)
theorem ty_19 : TyOk Tryd.prog 19 ⟨1, 8, [.v (.pointer none)], .st [(0, 17)], false⟩ := tyOk_of (zs := [.pointer none]) (by kernel_rfl) Tryd.underlying19 rfl rfl rfl rfl (by kernel_rfl) (by kernel_rfl) (by kernel_rfl)
theorem ty_21 : TyOk Tryd.prog 21 ⟨1, 4, [.v (.int .i32 0)], .int .i32, false⟩ := tyOk_of (zs := [.int .i32 0]) (by kernel_rfl) Tryd.underlying21 rfl rfl rfl rfl (by kernel_rfl) (by kernel_rfl) (by kernel_rfl)
theorem ty_22 : TyOk Tryd.prog 22 ⟨1, 24, [.v (.slice none 0 0)], .sl 43, false⟩ := tyOk_of (zs := [.slice none 0 0]) (by kernel_rfl) Tryd.underlying22 rfl rfl rfl rfl (by kernel_rfl) (by kernel_rfl) (by kernel_rfl)
theorem ty_23 : TyOk Tryd.prog 23 ⟨1, 8, [.v (.nilFunc)], .fn, false⟩ := tyOk_of (zs := [.nilFunc]) (by kernel_rfl) Tryd.underlying23 rfl trivial rfl rfl (by kernel_rfl) (by kernel_rfl) (by kernel_rfl)
theorem ty_24 : TyOk Tryd.prog 24 ⟨1, 8, [.v (.nilFunc)], .fn, false⟩ := tyOk_of (zs := [.nilFunc]) (by kernel_rfl) Tryd.underlying24 rfl trivial rfl rfl (by kernel_rfl) (by kernel_rfl) (by kernel_rfl)
theorem ty_25 : TyOk Tryd.prog 25 ⟨1, 24, [.v (.slice none 0 0)], .sl 5, false⟩ := tyOk_of (zs := [.slice none 0 0]) (by kernel_rfl) Tryd.underlying25 rfl rfl rfl rfl (by kernel_rfl) (by kernel_rfl) (by kernel_rfl)
theorem ty_26 : TyOk Tryd.prog 26 ⟨1, 24, [.v (.slice none 0 0)], .sl 9, false⟩ := tyOk_of (zs := [.slice none 0 0]) (by kernel_rfl) Tryd.underlying26 rfl rfl rfl rfl (by kernel_rfl) (by kernel_rfl) (by kernel_rfl)
theorem ty_27 : TyOk Tryd.prog 27 ⟨2, 16, [.v (.int .i64 0), .v (.int .i64 0)], .arr 2 3, false⟩ := tyOk_of (zs := [.int .i64 0, .int .i64 0]) (by kernel_rfl) Tryd.underlying27 rfl ⟨rfl, rfl⟩ rfl rfl (by kernel_rfl) (by kernel_rfl) (by kernel_rfl)
theorem ty_28 : TyOk Tryd.prog 28 ⟨11, 120, [.v (.int .i64 0), .v (.int .i64 0), .v (.int .i64 0), .v (.int .i64 0), .v (.int .i64 0), .v (.slice none 0 0), .v (.slice none 0 0), .v (.int .i64 0), .v (.int .i64 0), .v (.int .i64 0), .v (.int .i64 0)], .st [(0, 3), (1, 3), (2, 3), (3, 3), (4, 3), (5, 25), (6, 26), (7, 3), (8, 27), (10, 3)], false⟩ := tyOk_of (zs := [.int .i64 0, .int .i64 0, .int .i64 0, .int .i64 0, .int .i64 0, .slice none 0 0, .slice none 0 0, .int .i64 0, .int .i64 0, .int .i64 0, .int .i64 0]) (by kernel_rfl) Tryd.underlying28 rfl rfl rfl rfl (by kernel_rfl) (by kernel_rfl) (by kernel_rfl)
theorem ty_29 : TyOk Tryd.prog 29 ⟨11, 120, [.v (.int .i64 0), .v (.int .i64 0), .v (.int .i64 0), .v (.int .i64 0), .v (.int .i64 0), .v (.slice none 0 0), .v (.slice none 0 0), .v (.int .i64 0), .v (.int .i64 0), .v (.int .i64 0), .v (.int .i64 0)], .st [(0, 3), (1, 3), (2, 3), (3, 3), (4, 3), (5, 25), (6, 26), (7, 3), (8, 27), (10, 3)], false⟩ := tyOk_of (zs := [.int .i64 0, .int .i64 0, .int .i64 0, .int .i64 0, .int .i64 0, .slice none 0 0, .slice none 0 0, .int .i64 0, .int .i64 0, .int .i64 0, .int .i64 0]) (by kernel_rfl) Tryd.underlying29 rfl rfl rfl rfl (by kernel_rfl) (by kernel_rfl) (by kernel_rfl)
theorem ty_30 : TyOk Tryd.prog 30 ⟨16, 168, [.v (.bool false), .v (.int .i64 0), .v (.int .i64 0), .v (.int .i64 0), .v (.int .i64 0), .v (.int .i64 0), .v (.int .i64 0), .v (.int .i64 0), .v (.int .i64 0), .v (.slice none 0 0), .v (.slice none 0 0), .v (.int .i64 0), .v (.int .i64 0), .v (.int .i64 0), .v (.int .i64 0), .v (.string ⟨#[]⟩)], .st [(0, 4), (1, 2), (2, 2), (3, 2), (4, 29), (15, 9)], false⟩ := tyOk_of (zs := [.bool false, .int .i64 0, .int .i64 0, .int .i64 0, .int .i64 0, .int .i64 0, .int .i64 0, .int .i64 0, .int .i64 0, .slice none 0 0, .slice none 0 0, .int .i64 0, .int .i64 0, .int .i64 0, .int .i64 0, .string ⟨#[]⟩]) (by kernel_rfl) Tryd.underlying30 rfl rfl rfl rfl (by kernel_rfl) (by kernel_rfl) (by kernel_rfl)
theorem ty_31 : TyOk Tryd.prog 31 ⟨16, 168, [.v (.bool false), .v (.int .i64 0), .v (.int .i64 0), .v (.int .i64 0), .v (.int .i64 0), .v (.int .i64 0), .v (.int .i64 0), .v (.int .i64 0), .v (.int .i64 0), .v (.slice none 0 0), .v (.slice none 0 0), .v (.int .i64 0), .v (.int .i64 0), .v (.int .i64 0), .v (.int .i64 0), .v (.string ⟨#[]⟩)], .st [(0, 4), (1, 2), (2, 2), (3, 2), (4, 29), (15, 9)], false⟩ := tyOk_of (zs := [.bool false, .int .i64 0, .int .i64 0, .int .i64 0, .int .i64 0, .int .i64 0, .int .i64 0, .int .i64 0, .int .i64 0, .slice none 0 0, .slice none 0 0, .int .i64 0, .int .i64 0, .int .i64 0, .int .i64 0, .string ⟨#[]⟩]) (by kernel_rfl) Tryd.underlying31 rfl rfl rfl rfl (by kernel_rfl) (by kernel_rfl) (by kernel_rfl)
theorem ty_32 : TyOk Tryd.prog 32 ⟨1, 24, [.v (.slice none 0 0)], .sl 88, false⟩ := tyOk_of (zs := [.slice none 0 0]) (by kernel_rfl) Tryd.underlying32 rfl rfl rfl rfl (by kernel_rfl) (by kernel_rfl) (by kernel_rfl)
theorem ty_33 : TyOk Tryd.prog 33 ⟨1, 8, [.v (.int .i64 0)], .int .i64, false⟩ := tyOk_of (zs := [.int .i64 0]) (by kernel_rfl) Tryd.underlying33 rfl rfl rfl rfl (by kernel_rfl) (by kernel_rfl) (by kernel_rfl)
theorem ty_35 : TyOk Tryd.prog 35 ⟨1, 8, [.v (.nilFunc)], .fn, false⟩ := tyOk_of (zs := [.nilFunc]) (by kernel_rfl) Tryd.underlying35 rfl trivial rfl rfl (by kernel_rfl) (by kernel_rfl) (by kernel_rfl)
theorem ty_37 : TyOk Tryd.prog 37 ⟨1, 8, [.v (.nilFunc)], .fn, false⟩ := tyOk_of (zs := [.nilFunc]) (by kernel_rfl) Tryd.underlying37 rfl trivial rfl rfl (by kernel_rfl) (by kernel_rfl) (by kernel_rfl)
theorem ty_38 : TyOk Tryd.prog 38 ⟨1, 4, [.v (.int .u32 0)], .int .u32, false⟩ := tyOk_of (zs := [.int .u32 0]) (by kernel_rfl) Tryd.underlying38 rfl rfl rfl rfl (by kernel_rfl) (by kernel_rfl) (by kernel_rfl)
theorem ty_39 : TyOk Tryd.prog 39 ⟨1, 4, [.v (.int .u32 0)], .int .u32, false⟩ := tyOk_of (zs := [.int .u32 0]) (by kernel_rfl) Tryd.underlying39 rfl rfl rfl rfl (by kernel_rfl) (by kernel_rfl) (by kernel_rfl)
theorem ty_40 : TyOk Tryd.prog 40 ⟨1, 8, [.v (.int .u64 0)], .int .u64, false⟩ := tyOk_of (zs := [.int .u64 0]) (by kernel_rfl) Tryd.underlying40 rfl rfl rfl rfl (by kernel_rfl) (by kernel_rfl) (by kernel_rfl)
theorem ty_41 : TyOk Tryd.prog 41 ⟨1, 2, [.v (.int .u16 0)], .int .u16, false⟩ := tyOk_of (zs := [.int .u16 0]) (by kernel_rfl) Tryd.underlying41 rfl rfl rfl rfl (by kernel_rfl) (by kernel_rfl) (by kernel_rfl)
theorem ty_42 : TyOk Tryd.prog 42 ⟨6, 32, [.v (.int .u8 0), .v (.string ⟨#[]⟩), .v (.int .u8 0), .v (.int .u8 0), .v (.int .u16 0), .v (.int .u16 0)], .st [(0, 5), (1, 9), (2, 5), (3, 5), (4, 41), (5, 41)], true⟩ := tyOk_of (zs := [.int .u8 0, .string ⟨#[]⟩, .int .u8 0, .int .u8 0, .int .u16 0, .int .u16 0]) (by kernel_rfl) Tryd.underlying42 rfl rfl rfl rfl (by kernel_rfl) (by kernel_rfl) (by kernel_rfl)
theorem ty_43 : TyOk Tryd.prog 43 ⟨6, 32, [.v (.int .u8 0), .v (.string ⟨#[]⟩), .v (.int .u8 0), .v (.int .u8 0), .v (.int .u16 0), .v (.int .u16 0)], .st [(0, 5), (1, 9), (2, 5), (3, 5), (4, 41), (5, 41)], true⟩ := tyOk_of (zs := [.int .u8 0, .string ⟨#[]⟩, .int .u8 0, .int .u8 0, .int .u16 0, .int .u16 0]) (by kernel_rfl) Tryd.underlying43 rfl rfl rfl rfl (by kernel_rfl) (by kernel_rfl) (by kernel_rfl)
theorem ty_44 : TyOk Tryd.prog 44 ⟨1, 8, [.v (.nilFunc)], .fn, false⟩ := tyOk_of (zs := [.nilFunc]) (by kernel_rfl) Tryd.underlying44 rfl trivial rfl rfl (by kernel_rfl) (by kernel_rfl) (by kernel_rfl)
theorem ty_45 : TyOk Tryd.prog 45 ⟨1, 8, [.v (.nilFunc)], .fn, false⟩ := tyOk_of (zs := [.nilFunc]) (by kernel_rfl) Tryd.underlying45 rfl trivial rfl rfl (by kernel_rfl) (by kernel_rfl) (by kernel_rfl)
theorem ty_47 : TyOk Tryd.prog 47 ⟨1, 8, [.v (.nilFunc)], .fn, false⟩ := tyOk_of (zs := [.nilFunc]) (by kernel_rfl) Tryd.underlying47 rfl trivial rfl rfl (by kernel_rfl) (by kernel_rfl) (by kernel_rfl)
theorem ty_48 : TyOk Tryd.prog 48 ⟨1, 24, [.v (.slice none 0 0)], .sl 2, false⟩ := tyOk_of (zs := [.slice none 0 0]) (by kernel_rfl) Tryd.underlying48 rfl rfl rfl rfl (by kernel_rfl) (by kernel_rfl) (by kernel_rfl)
theorem ty_49 : TyOk Tryd.prog 49 ⟨6, 88, [.v (.int .i64 0), .v (.int .i64 0), .v (.int .i64 0), .v (.slice none 0 0), .v (.string ⟨#[]⟩), .v (.slice none 0 0)], .st [(0, 3), (1, 3), (2, 3), (3, 48), (4, 9), (5, 48)], false⟩ := tyOk_of (zs := [.int .i64 0, .int .i64 0, .int .i64 0, .slice none 0 0, .string ⟨#[]⟩, .slice none 0 0]) (by kernel_rfl) Tryd.underlying49 rfl rfl rfl rfl (by kernel_rfl) (by kernel_rfl) (by kernel_rfl)
theorem ty_50 : TyOk Tryd.prog 50 ⟨6, 88, [.v (.int .i64 0), .v (.int .i64 0), .v (.int .i64 0), .v (.slice none 0 0), .v (.string ⟨#[]⟩), .v (.slice none 0 0)], .st [(0, 3), (1, 3), (2, 3), (3, 48), (4, 9), (5, 48)], false⟩ := tyOk_of (zs := [.int .i64 0, .int .i64 0, .int .i64 0, .slice none 0 0, .string ⟨#[]⟩, .slice none 0 0]) (by kernel_rfl) Tryd.underlying50 rfl rfl rfl rfl (by kernel_rfl) (by kernel_rfl) (by kernel_rfl)
theorem ty_51 : TyOk Tryd.prog 51 ⟨1, 8, [.v (.nilFunc)], .fn, false⟩ := tyOk_of (zs := [.nilFunc]) (by kernel_rfl) Tryd.underlying51 rfl trivial rfl rfl (by kernel_rfl) (by kernel_rfl) (by kernel_rfl)
theorem ty_53 : TyOk Tryd.prog 53 ⟨1, 8, [.v (.nilFunc)], .fn, false⟩ := tyOk_of (zs := [.nilFunc]) (by kernel_rfl) Tryd.underlying53 rfl trivial rfl rfl (by kernel_rfl) (by kernel_rfl) (by kernel_rfl)
theorem ty_54 : TyOk Tryd.prog 54 ⟨1, 8, [.v (.nilFunc)], .fn, false⟩ := tyOk_of (zs := [.nilFunc]) (by kernel_rfl) Tryd.underlying54 rfl trivial rfl rfl (by kernel_rfl) (by kernel_rfl) (by kernel_rfl)
theorem ty_56 : TyOk Tryd.prog 56 ⟨1, 8, [.v (.nilFunc)], .fn, false⟩ := tyOk_of (zs := [.nilFunc]) (by kernel_rfl) Tryd.underlying56 rfl trivial rfl rfl (by kernel_rfl) (by kernel_rfl) (by kernel_rfl)
theorem ty_57 : TyOk Tryd.prog 57 ⟨1, 8, [.v (.nilFunc)], .fn, false⟩ := tyOk_of (zs := [.nilFunc]) (by kernel_rfl) Tryd.underlying57 rfl trivial rfl rfl (by kernel_rfl) (by kernel_rfl) (by kernel_rfl)
theorem ty_58 : TyOk Tryd.prog 58 ⟨1, 8, [.v (.nilFunc)], .fn, false⟩ := tyOk_of (zs := [.nilFunc]) (by kernel_rfl) Tryd.underlying58 rfl trivial rfl rfl (by kernel_rfl) (by kernel_rfl) (by kernel_rfl)
theorem ty_65 : TyOk Tryd.prog 65 ⟨4, 32, [.v (.int .i64 0), .v (.int .i64 0), .v (.int .i64 0), .v (.int .i64 0)], .st [(0, 3), (1, 3), (2, 3), (3, 3)], true⟩ := tyOk_of (zs := [.int .i64 0, .int .i64 0, .int .i64 0, .int .i64 0]) (by kernel_rfl) Tryd.underlying65 rfl rfl rfl rfl (by kernel_rfl) (by kernel_rfl) (by kernel_rfl)
theorem ty_66 : TyOk Tryd.prog 66 ⟨4, 32, [.v (.int .i64 0), .v (.int .i64 0), .v (.int .i64 0), .v (.int .i64 0)], .st [(0, 3), (1, 3), (2, 3), (3, 3)], true⟩ := tyOk_of (zs := [.int .i64 0, .int .i64 0, .int .i64 0, .int .i64 0]) (by kernel_rfl) Tryd.underlying66 rfl rfl rfl rfl (by kernel_rfl) (by kernel_rfl) (by kernel_rfl)
theorem ty_67 : TyOk Tryd.prog 67 ⟨1, 24, [.v (.slice none 0 0)], .sl 3, false⟩ := tyOk_of (zs := [.slice none 0 0]) (by kernel_rfl) Tryd.underlying67 rfl rfl rfl rfl (by kernel_rfl) (by kernel_rfl) (by kernel_rfl)
theorem ty_68 : TyOk Tryd.prog 68 ⟨2, 16, [.v (.int .i64 0), .v (.int .i64 0)], .st [(0, 3), (1, 3)], true⟩ := tyOk_of (zs := [.int .i64 0, .int .i64 0]) (by kernel_rfl) Tryd.underlying68 rfl rfl rfl rfl (by kernel_rfl) (by kernel_rfl) (by kernel_rfl)
theorem ty_69 : TyOk Tryd.prog 69 ⟨2, 16, [.v (.int .i64 0), .v (.int .i64 0)], .st [(0, 3), (1, 3)], true⟩ := tyOk_of (zs := [.int .i64 0, .int .i64 0]) (by kernel_rfl) Tryd.underlying69 rfl rfl rfl rfl (by kernel_rfl) (by kernel_rfl) (by kernel_rfl)
theorem ty_72 : TyOk Tryd.prog 72 ⟨1, 24, [.v (.slice none 0 0)], .sl 50, false⟩ := tyOk_of (zs := [.slice none 0 0]) (by kernel_rfl) Tryd.underlying72 rfl rfl rfl rfl (by kernel_rfl) (by kernel_rfl) (by kernel_rfl)
theorem ty_74 : TyOk Tryd.prog 74 ⟨3, 24, [.v (.int .u32 0), .v (.int .i64 0), .v (.int .i64 0)], .st [(0, 39), (1, 3), (2, 3)], true⟩ := tyOk_of (zs := [.int .u32 0, .int .i64 0, .int .i64 0]) (by kernel_rfl) Tryd.underlying74 rfl rfl rfl rfl (by kernel_rfl) (by kernel_rfl) (by kernel_rfl)
theorem ty_75 : TyOk Tryd.prog 75 ⟨3, 24, [.v (.int .u32 0), .v (.int .i64 0), .v (.int .i64 0)], .st [(0, 39), (1, 3), (2, 3)], true⟩ := tyOk_of (zs := [.int .u32 0, .int .i64 0, .int .i64 0]) (by kernel_rfl) Tryd.underlying75 rfl rfl rfl rfl (by kernel_rfl) (by kernel_rfl) (by kernel_rfl)
theorem ty_76 : TyOk Tryd.prog 76 ⟨1, 8, [.v (.map none)], .mp 2 127, false⟩ := tyOk_of (zs := [.map none]) (by kernel_rfl) Tryd.underlying76 rfl ⟨rfl, rfl⟩ rfl rfl (by kernel_rfl) (by kernel_rfl) (by kernel_rfl)
theorem ty_77 : TyOk Tryd.prog 77 ⟨1, 8, [.v (.map none)], .mp 2 130, false⟩ := tyOk_of (zs := [.map none]) (by kernel_rfl) Tryd.underlying77 rfl ⟨rfl, rfl⟩ rfl rfl (by kernel_rfl) (by kernel_rfl) (by kernel_rfl)
theorem ty_78 : TyOk Tryd.prog 78 ⟨4, 32, [.v (.bool false), .v (.int .i64 0), .v (.int .i64 0), .v (.int .i64 0)], .st [(0, 4), (1, 2), (2, 2), (3, 2)], true⟩ := tyOk_of (zs := [.bool false, .int .i64 0, .int .i64 0, .int .i64 0]) (by kernel_rfl) Tryd.underlying78 rfl rfl rfl rfl (by kernel_rfl) (by kernel_rfl) (by kernel_rfl)
theorem ty_79 : TyOk Tryd.prog 79 ⟨4, 32, [.v (.bool false), .v (.int .i64 0), .v (.int .i64 0), .v (.int .i64 0)], .st [(0, 4), (1, 2), (2, 2), (3, 2)], true⟩ := tyOk_of (zs := [.bool false, .int .i64 0, .int .i64 0, .int .i64 0]) (by kernel_rfl) Tryd.underlying79 rfl rfl rfl rfl (by kernel_rfl) (by kernel_rfl) (by kernel_rfl)
theorem ty_80 : TyOk Tryd.prog 80 ⟨11, 88, [.v (.int .u32 0), .v (.int .i64 0), .v (.int .i64 0), .v (.int .i64 0), .v (.int .i64 0), .v (.map none), .v (.map none), .v (.bool false), .v (.int .i64 0), .v (.int .i64 0), .v (.int .i64 0)], .st [(0, 75), (3, 3), (4, 3), (5, 76), (6, 77), (7, 79)], false⟩ := tyOk_of (zs := [.int .u32 0, .int .i64 0, .int .i64 0, .int .i64 0, .int .i64 0, .map none, .map none, .bool false, .int .i64 0, .int .i64 0, .int .i64 0]) (by kernel_rfl) Tryd.underlying80 rfl rfl rfl rfl (by kernel_rfl) (by kernel_rfl) (by kernel_rfl)
theorem ty_81 : TyOk Tryd.prog 81 ⟨11, 88, [.v (.int .u32 0), .v (.int .i64 0), .v (.int .i64 0), .v (.int .i64 0), .v (.int .i64 0), .v (.map none), .v (.map none), .v (.bool false), .v (.int .i64 0), .v (.int .i64 0), .v (.int .i64 0)], .st [(0, 75), (3, 3), (4, 3), (5, 76), (6, 77), (7, 79)], false⟩ := tyOk_of (zs := [.int .u32 0, .int .i64 0, .int .i64 0, .int .i64 0, .int .i64 0, .map none, .map none, .bool false, .int .i64 0, .int .i64 0, .int .i64 0]) (by kernel_rfl) Tryd.underlying81 rfl rfl rfl rfl (by kernel_rfl) (by kernel_rfl) (by kernel_rfl)
theorem ty_84 : TyOk Tryd.prog 84 ⟨1, 8, [.v (.map none)], .mp 2 4, false⟩ := tyOk_of (zs := [.map none]) (by kernel_rfl) Tryd.underlying84 rfl ⟨rfl, rfl⟩ rfl rfl (by kernel_rfl) (by kernel_rfl) (by kernel_rfl)
theorem ty_86 : TyOk Tryd.prog 86 ⟨1, 8, [.v (.nilFunc)], .fn, false⟩ := tyOk_of (zs := [.nilFunc]) (by kernel_rfl) Tryd.underlying86 rfl trivial rfl rfl (by kernel_rfl) (by kernel_rfl) (by kernel_rfl)
theorem ty_87 : TyOk Tryd.prog 87 ⟨4, 72, [.v (.int .i64 0), .v (.slice none 0 0), .v (.string ⟨#[]⟩), .v (.slice none 0 0)], .st [(0, 3), (1, 48), (2, 9), (3, 48)], false⟩ := tyOk_of (zs := [.int .i64 0, .slice none 0 0, .string ⟨#[]⟩, .slice none 0 0]) (by kernel_rfl) Tryd.underlying87 rfl rfl rfl rfl (by kernel_rfl) (by kernel_rfl) (by kernel_rfl)
theorem ty_88 : TyOk Tryd.prog 88 ⟨4, 72, [.v (.int .i64 0), .v (.slice none 0 0), .v (.string ⟨#[]⟩), .v (.slice none 0 0)], .st [(0, 3), (1, 48), (2, 9), (3, 48)], false⟩ := tyOk_of (zs := [.int .i64 0, .slice none 0 0, .string ⟨#[]⟩, .slice none 0 0]) (by kernel_rfl) Tryd.underlying88 rfl rfl rfl rfl (by kernel_rfl) (by kernel_rfl) (by kernel_rfl)
theorem ty_89 : TyOk Tryd.prog 89 ⟨1, 8, [.v (.map none)], .mp 39 4, false⟩ := tyOk_of (zs := [.map none]) (by kernel_rfl) Tryd.underlying89 rfl ⟨rfl, rfl⟩ rfl rfl (by kernel_rfl) (by kernel_rfl) (by kernel_rfl)
theorem ty_90 : TyOk Tryd.prog 90 ⟨1, 24, [.v (.slice none 0 0)], .sl 39, false⟩ := tyOk_of (zs := [.slice none 0 0]) (by kernel_rfl) Tryd.underlying90 rfl rfl rfl rfl (by kernel_rfl) (by kernel_rfl) (by kernel_rfl)
theorem ty_99 : TyOk Tryd.prog 99 ⟨1, 8, [.v (.nilFunc)], .fn, false⟩ := tyOk_of (zs := [.nilFunc]) (by kernel_rfl) Tryd.underlying99 rfl trivial rfl rfl (by kernel_rfl) (by kernel_rfl) (by kernel_rfl)
theorem ty_101 : TyOk Tryd.prog 101 ⟨1, 8, [.v (.map none)], .mp 3 99, false⟩ := tyOk_of (zs := [.map none]) (by kernel_rfl) Tryd.underlying101 rfl ⟨rfl, rfl⟩ rfl rfl (by kernel_rfl) (by kernel_rfl) (by kernel_rfl)
theorem ty_108 : TyOk Tryd.prog 108 ⟨1, 8, [.v (.pointer none)], .ptr 110, false⟩ := tyOk_of (zs := [.pointer none]) (by kernel_rfl) Tryd.underlying108 rfl rfl rfl rfl (by kernel_rfl) (by kernel_rfl) (by kernel_rfl)
theorem ty_109 : TyOk Tryd.prog 109 ⟨2, 32, [.v (.pointer none), .v (.slice none 0 0)], .st [(0, 108), (1, 25)], false⟩ := tyOk_of (zs := [.pointer none, .slice none 0 0]) (by kernel_rfl) Tryd.underlying109 rfl rfl rfl rfl (by kernel_rfl) (by kernel_rfl) (by kernel_rfl)
theorem ty_110 : TyOk Tryd.prog 110 ⟨2, 32, [.v (.pointer none), .v (.slice none 0 0)], .st [(0, 108), (1, 25)], false⟩ := tyOk_of (zs := [.pointer none, .slice none 0 0]) (by kernel_rfl) Tryd.underlying110 rfl rfl rfl rfl (by kernel_rfl) (by kernel_rfl) (by kernel_rfl)
theorem ty_120 : TyOk Tryd.prog 120 ⟨12, 112, [.v (.int .u32 0), .v (.int .i64 0), .v (.int .i64 0), .v (.int .i64 0), .v (.int .i64 0), .v (.map none), .v (.map none), .v (.bool false), .v (.int .i64 0), .v (.int .i64 0), .v (.int .i64 0), .v (.slice none 0 0)], .st [(0, 81), (11, 32)], false⟩ := tyOk_of (zs := [.int .u32 0, .int .i64 0, .int .i64 0, .int .i64 0, .int .i64 0, .map none, .map none, .bool false, .int .i64 0, .int .i64 0, .int .i64 0, .slice none 0 0]) (by kernel_rfl) Tryd.underlying120 rfl rfl rfl rfl (by kernel_rfl) (by kernel_rfl) (by kernel_rfl)
theorem ty_121 : TyOk Tryd.prog 121 ⟨12, 112, [.v (.int .u32 0), .v (.int .i64 0), .v (.int .i64 0), .v (.int .i64 0), .v (.int .i64 0), .v (.map none), .v (.map none), .v (.bool false), .v (.int .i64 0), .v (.int .i64 0), .v (.int .i64 0), .v (.slice none 0 0)], .st [(0, 81), (11, 32)], false⟩ := tyOk_of (zs := [.int .u32 0, .int .i64 0, .int .i64 0, .int .i64 0, .int .i64 0, .map none, .map none, .bool false, .int .i64 0, .int .i64 0, .int .i64 0, .slice none 0 0]) (by kernel_rfl) Tryd.underlying121 rfl rfl rfl rfl (by kernel_rfl) (by kernel_rfl) (by kernel_rfl)
theorem ty_126 : TyOk Tryd.prog 126 ⟨4, 40, [.v (.int .i64 0), .v (.int .i64 0), .v (.int .i64 0), .v (.string ⟨#[]⟩)], .st [(0, 2), (1, 2), (2, 2), (3, 9)], true⟩ := tyOk_of (zs := [.int .i64 0, .int .i64 0, .int .i64 0, .string ⟨#[]⟩]) (by kernel_rfl) Tryd.underlying126 rfl rfl rfl rfl (by kernel_rfl) (by kernel_rfl) (by kernel_rfl)
theorem ty_127 : TyOk Tryd.prog 127 ⟨4, 40, [.v (.int .i64 0), .v (.int .i64 0), .v (.int .i64 0), .v (.string ⟨#[]⟩)], .st [(0, 2), (1, 2), (2, 2), (3, 9)], true⟩ := tyOk_of (zs := [.int .i64 0, .int .i64 0, .int .i64 0, .string ⟨#[]⟩]) (by kernel_rfl) Tryd.underlying127 rfl rfl rfl rfl (by kernel_rfl) (by kernel_rfl) (by kernel_rfl)
theorem ty_129 : TyOk Tryd.prog 129 ⟨5, 40, [.v (.int .i64 0), .v (.int .i64 0), .v (.bool false), .v (.int .i64 0), .v (.int .i64 0)], .st [(0, 3), (1, 3), (2, 4), (3, 2), (4, 2)], true⟩ := tyOk_of (zs := [.int .i64 0, .int .i64 0, .bool false, .int .i64 0, .int .i64 0]) (by kernel_rfl) Tryd.underlying129 rfl rfl rfl rfl (by kernel_rfl) (by kernel_rfl) (by kernel_rfl)
theorem ty_130 : TyOk Tryd.prog 130 ⟨5, 40, [.v (.int .i64 0), .v (.int .i64 0), .v (.bool false), .v (.int .i64 0), .v (.int .i64 0)], .st [(0, 3), (1, 3), (2, 4), (3, 2), (4, 2)], true⟩ := tyOk_of (zs := [.int .i64 0, .int .i64 0, .bool false, .int .i64 0, .int .i64 0]) (by kernel_rfl) Tryd.underlying130 rfl rfl rfl rfl (by kernel_rfl) (by kernel_rfl) (by kernel_rfl)
theorem ty_132 : TyOk Tryd.prog 132 ⟨3, 40, [.v (.slice none 0 0), .v (.bool false), .v (.int .i64 0)], .st [(0, 67), (1, 4), (2, 3)], false⟩ := tyOk_of (zs := [.slice none 0 0, .bool false, .int .i64 0]) (by kernel_rfl) Tryd.underlying132 rfl rfl rfl rfl (by kernel_rfl) (by kernel_rfl) (by kernel_rfl)
theorem ty_133 : TyOk Tryd.prog 133 ⟨3, 40, [.v (.slice none 0 0), .v (.bool false), .v (.int .i64 0)], .st [(0, 67), (1, 4), (2, 3)], false⟩ := tyOk_of (zs := [.slice none 0 0, .bool false, .int .i64 0]) (by kernel_rfl) Tryd.underlying133 rfl rfl rfl rfl (by kernel_rfl) (by kernel_rfl) (by kernel_rfl)
theorem ty_137 : TyOk Tryd.prog 137 ⟨1, 8, [.v (.nilFunc)], .fn, false⟩ := tyOk_of (zs := [.nilFunc]) (by kernel_rfl) Tryd.underlying137 rfl trivial rfl rfl (by kernel_rfl) (by kernel_rfl) (by kernel_rfl)
theorem ty_138 : TyOk Tryd.prog 138 ⟨1, 8, [.v (.map none)], .mp 3 137, false⟩ := tyOk_of (zs := [.map none]) (by kernel_rfl) Tryd.underlying138 rfl ⟨rfl, rfl⟩ rfl rfl (by kernel_rfl) (by kernel_rfl) (by kernel_rfl)
theorem ty_140 : TyOk Tryd.prog 140 ⟨1, 8, [.v (.pointer none)], .ptr 121, false⟩ := tyOk_of (zs := [.pointer none]) (by kernel_rfl) Tryd.underlying140 rfl rfl rfl rfl (by kernel_rfl) (by kernel_rfl) (by kernel_rfl)
theorem ty_144 : TyOk Tryd.prog 144 ⟨3, 64, [.v (.slice none 0 0), .v (.string ⟨#[]⟩), .v (.slice none 0 0)], .st [(0, 48), (1, 9), (2, 48)], false⟩ := tyOk_of (zs := [.slice none 0 0, .string ⟨#[]⟩, .slice none 0 0]) (by kernel_rfl) Tryd.underlying144 rfl rfl rfl rfl (by kernel_rfl) (by kernel_rfl) (by kernel_rfl)
theorem ty_145 : TyOk Tryd.prog 145 ⟨3, 64, [.v (.slice none 0 0), .v (.string ⟨#[]⟩), .v (.slice none 0 0)], .st [(0, 48), (1, 9), (2, 48)], false⟩ := tyOk_of (zs := [.slice none 0 0, .string ⟨#[]⟩, .slice none 0 0]) (by kernel_rfl) Tryd.underlying145 rfl rfl rfl rfl (by kernel_rfl) (by kernel_rfl) (by kernel_rfl)
theorem ty_148 : TyOk Tryd.prog 148 ⟨1, 8, [.v (.pointer none)], .ptr 29, false⟩ := tyOk_of (zs := [.pointer none]) (by kernel_rfl) Tryd.underlying148 rfl rfl rfl rfl (by kernel_rfl) (by kernel_rfl) (by kernel_rfl)
theorem ty_149 : TyOk Tryd.prog 149 ⟨1, 8, [.v (.pointer none)], .ptr 3, false⟩ := tyOk_of (zs := [.pointer none]) (by kernel_rfl) Tryd.underlying149 rfl rfl rfl rfl (by kernel_rfl) (by kernel_rfl) (by kernel_rfl)
theorem ty_150 : TyOk Tryd.prog 150 ⟨1, 8, [.v (.nilFunc)], .fn, false⟩ := tyOk_of (zs := [.nilFunc]) (by kernel_rfl) Tryd.underlying150 rfl trivial rfl rfl (by kernel_rfl) (by kernel_rfl) (by kernel_rfl)
theorem ty_152 : TyOk Tryd.prog 152 ⟨1, 8, [.v (.map none)], .mp 5 150, false⟩ := tyOk_of (zs := [.map none]) (by kernel_rfl) Tryd.underlying152 rfl ⟨rfl, rfl⟩ rfl rfl (by kernel_rfl) (by kernel_rfl) (by kernel_rfl)
theorem ty_158 : TyOk Tryd.prog 158 ⟨256, 256, List.replicate 256 (.v (.bool false)), .arr 256 4, false⟩ := tyOk_of (zs := List.replicate 256 (.bool false)) (by kernel_rfl) Tryd.underlying158 List.map_replicate ⟨rfl, rfl⟩ List.length_replicate rfl (by kernel_rfl) (by kernel_rfl) (by kernel_rfl)
theorem ty_159 : TyOk Tryd.prog 159 ⟨256, 256, List.replicate 256 (.v (.bool false)), .arr 256 4, false⟩ := tyOk_of (zs := List.replicate 256 (.bool false)) (by kernel_rfl) Tryd.underlying159 List.map_replicate ⟨rfl, rfl⟩ List.length_replicate rfl (by kernel_rfl) (by kernel_rfl) (by kernel_rfl)
theorem ty_163 : TyOk Tryd.prog 163 ⟨1, 8, [.v (.pointer none)], .ptr 159, false⟩ := tyOk_of (zs := [.pointer none]) (by kernel_rfl) Tryd.underlying163 rfl rfl rfl rfl (by kernel_rfl) (by kernel_rfl) (by kernel_rfl)
theorem ty_164 : TyOk Tryd.prog 164 ⟨1, 8, [.v (.pointer none)], .ptr 5, false⟩ := tyOk_of (zs := [.pointer none]) (by kernel_rfl) Tryd.underlying164 rfl rfl rfl rfl (by kernel_rfl) (by kernel_rfl) (by kernel_rfl)
theorem ty_168 : TyOk Tryd.prog 168 ⟨1, 8, [.v (.nilFunc)], .fn, false⟩ := tyOk_of (zs := [.nilFunc]) (by kernel_rfl) Tryd.underlying168 rfl trivial rfl rfl (by kernel_rfl) (by kernel_rfl) (by kernel_rfl)
theorem ty_169 : TyOk Tryd.prog 169 ⟨3, 48, [.v (.string ⟨#[]⟩), .v (.string ⟨#[]⟩), .v (.string ⟨#[]⟩)], .st [(0, 9), (1, 9), (2, 9)], true⟩ := tyOk_of (zs := [.string ⟨#[]⟩, .string ⟨#[]⟩, .string ⟨#[]⟩]) (by kernel_rfl) Tryd.underlying169 rfl rfl rfl rfl (by kernel_rfl) (by kernel_rfl) (by kernel_rfl)
theorem ty_170 : TyOk Tryd.prog 170 ⟨3, 48, [.v (.string ⟨#[]⟩), .v (.string ⟨#[]⟩), .v (.string ⟨#[]⟩)], .st [(0, 9), (1, 9), (2, 9)], true⟩ := tyOk_of (zs := [.string ⟨#[]⟩, .string ⟨#[]⟩, .string ⟨#[]⟩]) (by kernel_rfl) Tryd.underlying170 rfl rfl rfl rfl (by kernel_rfl) (by kernel_rfl) (by kernel_rfl)
theorem ty_182 : TyOk Tryd.prog 182 ⟨1, 8, [.v (.pointer none)], .oth, false⟩ := tyOk_of (zs := [.pointer none]) (by kernel_rfl) Tryd.underlying182 rfl trivial rfl rfl (by kernel_rfl) (by kernel_rfl) (by kernel_rfl)
theorem ty_188 : TyOk Tryd.prog 188 ⟨90, 1440, List.replicate 90 (.v (.string ⟨#[]⟩)), .arr 30 170, false⟩ := tyOk_of (zs := List.replicate 90 (.string ⟨#[]⟩)) (by kernel_rfl) Tryd.underlying188 List.map_replicate ⟨rfl, rfl⟩ List.length_replicate rfl (by kernel_rfl) (by kernel_rfl) (by kernel_rfl)
theorem ty_190 : TyOk Tryd.prog 190 ⟨177, 2832, List.replicate 177 (.v (.string ⟨#[]⟩)), .arr 59 170, false⟩ := tyOk_of (zs := List.replicate 177 (.string ⟨#[]⟩)) (by kernel_rfl) Tryd.underlying190 List.map_replicate ⟨rfl, rfl⟩ List.length_replicate rfl (by kernel_rfl) (by kernel_rfl) (by kernel_rfl)
theorem ty_197 : TyOk Tryd.prog 197 ⟨78, 1248, List.replicate 78 (.v (.string ⟨#[]⟩)), .arr 26 170, false⟩ := tyOk_of (zs := List.replicate 78 (.string ⟨#[]⟩)) (by kernel_rfl) Tryd.underlying197 List.map_replicate ⟨rfl, rfl⟩ List.length_replicate rfl (by kernel_rfl) (by kernel_rfl) (by kernel_rfl)
theorem ty_205 : TyOk Tryd.prog 205 ⟨1, 8, [.v (.int .i64 0)], .int .i64, false⟩ := tyOk_of (zs := [.int .i64 0]) (by kernel_rfl) Tryd.underlying205 rfl rfl rfl rfl (by kernel_rfl) (by kernel_rfl) (by kernel_rfl)
theorem ty_215 : TyOk Tryd.prog 215 ⟨1, 8, [.v (.int .u64 0)], .int .u64, false⟩ := tyOk_of (zs := [.int .u64 0]) (by kernel_rfl) Tryd.underlying215 rfl rfl rfl rfl (by kernel_rfl) (by kernel_rfl) (by kernel_rfl)
theorem ty_222 : TyOk Tryd.prog 222 ⟨256, 256, List.replicate 256 (.v (.int .u8 0)), .arr 256 5, false⟩ := tyOk_of (zs := List.replicate 256 (.int .u8 0)) (by kernel_rfl) Tryd.underlying222 List.map_replicate ⟨rfl, rfl⟩ List.length_replicate rfl (by kernel_rfl) (by kernel_rfl) (by kernel_rfl)
theorem ty_224 : TyOk Tryd.prog 224 ⟨1, 8, [.v (.nilFunc)], .fn, false⟩ := tyOk_of (zs := [.nilFunc]) (by kernel_rfl) Tryd.underlying224 rfl trivial rfl rfl (by kernel_rfl) (by kernel_rfl) (by kernel_rfl)
theorem ty_226 : TyOk Tryd.prog 226 ⟨1, 8, [.v (.int .u64 0)], .int .u64, false⟩ := tyOk_of (zs := [.int .u64 0]) (by kernel_rfl) Tryd.underlying226 rfl rfl rfl rfl (by kernel_rfl) (by kernel_rfl) (by kernel_rfl)
theorem ty_234 : TyOk Tryd.prog 234 ⟨1, 24, [.v (.slice none 0 0)], .sl 236, false⟩ := tyOk_of (zs := [.slice none 0 0]) (by kernel_rfl) Tryd.underlying234 rfl rfl rfl rfl (by kernel_rfl) (by kernel_rfl) (by kernel_rfl)
theorem ty_235 : TyOk Tryd.prog 235 ⟨2, 16, [.v (.int .i64 0), .v (.int .i64 0)], .st [(0, 3), (1, 3)], true⟩ := tyOk_of (zs := [.int .i64 0, .int .i64 0]) (by kernel_rfl) Tryd.underlying235 rfl rfl rfl rfl (by kernel_rfl) (by kernel_rfl) (by kernel_rfl)
theorem ty_236 : TyOk Tryd.prog 236 ⟨2, 16, [.v (.int .i64 0), .v (.int .i64 0)], .st [(0, 3), (1, 3)], true⟩ := tyOk_of (zs := [.int .i64 0, .int .i64 0]) (by kernel_rfl) Tryd.underlying236 rfl rfl rfl rfl (by kernel_rfl) (by kernel_rfl) (by kernel_rfl)
theorem ty_238 : TyOk Tryd.prog 238 ⟨1, 8, [.v (.pointer none)], .ptr 247, false⟩ := tyOk_of (zs := [.pointer none]) (by kernel_rfl) Tryd.underlying238 rfl rfl rfl rfl (by kernel_rfl) (by kernel_rfl) (by kernel_rfl)
theorem ty_239 : TyOk Tryd.prog 239 ⟨1, 8, [.v (.pointer none)], .ptr 226, false⟩ := tyOk_of (zs := [.pointer none]) (by kernel_rfl) Tryd.underlying239 rfl rfl rfl rfl (by kernel_rfl) (by kernel_rfl) (by kernel_rfl)
theorem ty_241 : TyOk Tryd.prog 241 ⟨2, 2, [.v (.int .u8 0), .v (.int .u8 0)], .st [(0, 5), (1, 5)], true⟩ := tyOk_of (zs := [.int .u8 0, .int .u8 0]) (by kernel_rfl) Tryd.underlying241 rfl rfl rfl rfl (by kernel_rfl) (by kernel_rfl) (by kernel_rfl)
theorem ty_242 : TyOk Tryd.prog 242 ⟨2, 2, [.v (.int .u8 0), .v (.int .u8 0)], .st [(0, 5), (1, 5)], true⟩ := tyOk_of (zs := [.int .u8 0, .int .u8 0]) (by kernel_rfl) Tryd.underlying242 rfl rfl rfl rfl (by kernel_rfl) (by kernel_rfl) (by kernel_rfl)
theorem ty_243 : TyOk Tryd.prog 243 ⟨32, 32, List.replicate 32 (.v (.int .u8 0)), .arr 16 242, false⟩ := tyOk_of (zs := List.replicate 32 (.int .u8 0)) (by kernel_rfl) Tryd.underlying243 List.map_replicate ⟨rfl, rfl⟩ List.length_replicate rfl (by kernel_rfl) (by kernel_rfl) (by kernel_rfl)
theorem ty_244 : TyOk Tryd.prog 244 ⟨1, 24, [.v (.slice none 0 0)], .sl 249, false⟩ := tyOk_of (zs := [.slice none 0 0]) (by kernel_rfl) Tryd.underlying244 rfl rfl rfl rfl (by kernel_rfl) (by kernel_rfl) (by kernel_rfl)
theorem ty_245 : TyOk Tryd.prog 245 ⟨1, 24, [.v (.slice none 0 0)], .sl 252, false⟩ := tyOk_of (zs := [.slice none 0 0]) (by kernel_rfl) Tryd.underlying245 rfl rfl rfl rfl (by kernel_rfl) (by kernel_rfl) (by kernel_rfl)
theorem ty_246 : TyOk Tryd.prog 246 ⟨3, 56, [.v (.slice none 0 0), .v (.slice none 0 0), .v (.int .i64 0)], .st [(0, 244), (1, 245), (2, 3)], false⟩ := tyOk_of (zs := [.slice none 0 0, .slice none 0 0, .int .i64 0]) (by kernel_rfl) Tryd.underlying246 rfl rfl rfl rfl (by kernel_rfl) (by kernel_rfl) (by kernel_rfl)
theorem ty_247 : TyOk Tryd.prog 247 ⟨3, 56, [.v (.slice none 0 0), .v (.slice none 0 0), .v (.int .i64 0)], .st [(0, 244), (1, 245), (2, 3)], false⟩ := tyOk_of (zs := [.slice none 0 0, .slice none 0 0, .int .i64 0]) (by kernel_rfl) Tryd.underlying247 rfl rfl rfl rfl (by kernel_rfl) (by kernel_rfl) (by kernel_rfl)
theorem ty_248 : TyOk Tryd.prog 248 ⟨3, 6, [.v (.int .u16 0), .v (.int .u16 0), .v (.int .u16 0)], .st [(0, 41), (1, 41), (2, 41)], true⟩ := tyOk_of (zs := [.int .u16 0, .int .u16 0, .int .u16 0]) (by kernel_rfl) Tryd.underlying248 rfl rfl rfl rfl (by kernel_rfl) (by kernel_rfl) (by kernel_rfl)
theorem ty_249 : TyOk Tryd.prog 249 ⟨3, 6, [.v (.int .u16 0), .v (.int .u16 0), .v (.int .u16 0)], .st [(0, 41), (1, 41), (2, 41)], true⟩ := tyOk_of (zs := [.int .u16 0, .int .u16 0, .int .u16 0]) (by kernel_rfl) Tryd.underlying249 rfl rfl rfl rfl (by kernel_rfl) (by kernel_rfl) (by kernel_rfl)
theorem ty_251 : TyOk Tryd.prog 251 ⟨3, 12, [.v (.int .u32 0), .v (.int .u32 0), .v (.int .u32 0)], .st [(0, 38), (1, 38), (2, 38)], true⟩ := tyOk_of (zs := [.int .u32 0, .int .u32 0, .int .u32 0]) (by kernel_rfl) Tryd.underlying251 rfl rfl rfl rfl (by kernel_rfl) (by kernel_rfl) (by kernel_rfl)
theorem ty_252 : TyOk Tryd.prog 252 ⟨3, 12, [.v (.int .u32 0), .v (.int .u32 0), .v (.int .u32 0)], .st [(0, 38), (1, 38), (2, 38)], true⟩ := tyOk_of (zs := [.int .u32 0, .int .u32 0, .int .u32 0]) (by kernel_rfl) Tryd.underlying252 rfl rfl rfl rfl (by kernel_rfl) (by kernel_rfl) (by kernel_rfl)
theorem ty_254 : TyOk Tryd.prog 254 ⟨1, 8, [.v (.pointer none)], .ptr 249, false⟩ := tyOk_of (zs := [.pointer none]) (by kernel_rfl) Tryd.underlying254 rfl rfl rfl rfl (by kernel_rfl) (by kernel_rfl) (by kernel_rfl)
theorem ty_255 : TyOk Tryd.prog 255 ⟨1, 8, [.v (.pointer none)], .ptr 252, false⟩ := tyOk_of (zs := [.pointer none]) (by kernel_rfl) Tryd.underlying255 rfl rfl rfl rfl (by kernel_rfl) (by kernel_rfl) (by kernel_rfl)
theorem ty_256 : TyOk Tryd.prog 256 ⟨4, 40, [.v (.pointer none), .v (.pointer none), .v (.pointer none), .v (.string ⟨#[]⟩)], .st [(0, 17), (1, 17), (2, 17), (3, 9)], false⟩ := tyOk_of (zs := [.pointer none, .pointer none, .pointer none, .string ⟨#[]⟩]) (by kernel_rfl) Tryd.underlying256 rfl rfl rfl rfl (by kernel_rfl) (by kernel_rfl) (by kernel_rfl)
theorem ty_257 : TyOk Tryd.prog 257 ⟨4, 40, [.v (.pointer none), .v (.pointer none), .v (.pointer none), .v (.string ⟨#[]⟩)], .st [(0, 17), (1, 17), (2, 17), (3, 9)], false⟩ := tyOk_of (zs := [.pointer none, .pointer none, .pointer none, .string ⟨#[]⟩]) (by kernel_rfl) Tryd.underlying257 rfl rfl rfl rfl (by kernel_rfl) (by kernel_rfl) (by kernel_rfl)
theorem ty_258 : TyOk Tryd.prog 258 ⟨0, 0, [], .arr 0 16, false⟩ := tyOk_of (zs := []) (by kernel_rfl) Tryd.underlying258 rfl ⟨rfl, rfl⟩ rfl rfl (by kernel_rfl) (by kernel_rfl) (by kernel_rfl)
theorem ty_259 : TyOk Tryd.prog 259 ⟨0, 0, [], .st [(0, 258)], false⟩ := tyOk_of (zs := []) (by kernel_rfl) Tryd.underlying259 rfl rfl rfl rfl (by kernel_rfl) (by kernel_rfl) (by kernel_rfl)
theorem ty_260 : TyOk Tryd.prog 260 ⟨0, 0, [], .st [(0, 258)], false⟩ := tyOk_of (zs := []) (by kernel_rfl) Tryd.underlying260 rfl rfl rfl rfl (by kernel_rfl) (by kernel_rfl) (by kernel_rfl)
theorem ty_262 : TyOk Tryd.prog 262 ⟨1, 1, [.v (.int .u8 0)], .int .u8, false⟩ := tyOk_of (zs := [.int .u8 0]) (by kernel_rfl) Tryd.underlying262 rfl rfl rfl rfl (by kernel_rfl) (by kernel_rfl) (by kernel_rfl)
theorem ty_263 : TyOk Tryd.prog 263 ⟨1, 1, [.v (.int .u8 0)], .int .u8, false⟩ := tyOk_of (zs := [.int .u8 0]) (by kernel_rfl) Tryd.underlying263 rfl rfl rfl rfl (by kernel_rfl) (by kernel_rfl) (by kernel_rfl)
theorem ty_265 : TyOk Tryd.prog 265 ⟨1, 4, [.v (.int .i32 0)], .int .i32, false⟩ := tyOk_of (zs := [.int .i32 0]) (by kernel_rfl) Tryd.underlying265 rfl rfl rfl rfl (by kernel_rfl) (by kernel_rfl) (by kernel_rfl)
theorem ty_266 : TyOk Tryd.prog 266 ⟨1, 4, [.v (.int .i32 0)], .int .i32, false⟩ := tyOk_of (zs := [.int .i32 0]) (by kernel_rfl) Tryd.underlying266 rfl rfl rfl rfl (by kernel_rfl) (by kernel_rfl) (by kernel_rfl)
theorem ty_267 : TyOk Tryd.prog 267 ⟨11, 48, [.v (.int .u64 0), .v (.int .u64 0), .v (.int .u32 0), .v (.int .u8 0), .v (.int .u8 0), .v (.int .u8 0), .v (.int .u8 0), .v (.nilFunc), .v (.pointer none), .v (.int .i32 0), .v (.int .i32 0)], .st [(0, 12), (1, 12), (2, 38), (3, 262), (4, 5), (5, 5), (6, 263), (7, 264), (8, 164), (9, 265), (10, 266)], false⟩ := tyOk_of (zs := [.int .u64 0, .int .u64 0, .int .u32 0, .int .u8 0, .int .u8 0, .int .u8 0, .int .u8 0, .nilFunc, .pointer none, .int .i32 0, .int .i32 0]) (by kernel_rfl) Tryd.underlying267 rfl rfl rfl rfl (by kernel_rfl) (by kernel_rfl) (by kernel_rfl)
theorem ty_268 : TyOk Tryd.prog 268 ⟨11, 48, [.v (.int .u64 0), .v (.int .u64 0), .v (.int .u32 0), .v (.int .u8 0), .v (.int .u8 0), .v (.int .u8 0), .v (.int .u8 0), .v (.nilFunc), .v (.pointer none), .v (.int .i32 0), .v (.int .i32 0)], .st [(0, 12), (1, 12), (2, 38), (3, 262), (4, 5), (5, 5), (6, 263), (7, 264), (8, 164), (9, 265), (10, 266)], false⟩ := tyOk_of (zs := [.int .u64 0, .int .u64 0, .int .u32 0, .int .u8 0, .int .u8 0, .int .u8 0, .int .u8 0, .nilFunc, .pointer none, .int .i32 0, .int .i32 0]) (by kernel_rfl) Tryd.underlying268 rfl rfl rfl rfl (by kernel_rfl) (by kernel_rfl) (by kernel_rfl)
def tabc_0 : Nat → Option TyI
  | 1 => some ⟨1, 8, [.v (.nilFunc)], .fn, false⟩
  | 2 => some ⟨1, 8, [.v (.int .i64 0)], .int .i64, false⟩
  | 3 => some ⟨1, 8, [.v (.int .i64 0)], .int .i64, false⟩
  | 4 => some ⟨1, 1, [.v (.bool false)], .bool, false⟩
  | 5 => some ⟨1, 1, [.v (.int .u8 0)], .int .u8, false⟩
  | 6 => some ⟨1, 1, [.v (.int .u8 0)], .int .u8, false⟩
  | 7 => some ⟨4, 24, [.v (.int .i64 0), .v (.int .i64 0), .v (.bool false), .v (.int .u8 0)], .st [(0, 2), (1, 3), (2, 4), (3, 6)], false⟩
  | 8 => some ⟨4, 24, [.v (.int .i64 0), .v (.int .i64 0), .v (.bool false), .v (.int .u8 0)], .st [(0, 2), (1, 3), (2, 4), (3, 6)], false⟩
  | 9 => some ⟨1, 16, [.v (.string ⟨#[]⟩)], .str, false⟩
  | 10 => some ⟨1, 16, [.v (.string ⟨#[]⟩)], .str, false⟩
  | 11 => some ⟨1, 16, [.v (.string ⟨#[]⟩)], .str, false⟩
  | 12 => some ⟨1, 8, [.v (.int .u64 0)], .int .u64, false⟩
  | 13 => some ⟨2, 24, [.v (.string ⟨#[]⟩), .v (.int .u64 0)], .st [(0, 9), (1, 12)], false⟩
  | 14 => some ⟨2, 24, [.v (.string ⟨#[]⟩), .v (.int .u64 0)], .st [(0, 9), (1, 12)], false⟩
  | 15 => some ⟨1, 8, [.v (.pointer none)], .ptr 257, false⟩
  | 16 => some ⟨1, 8, [.v (.pointer none)], .ptr 260, false⟩
  | 17 => some ⟨1, 8, [.v (.pointer none)], .ptr 268, false⟩
  | 18 => some ⟨1, 8, [.v (.pointer none)], .st [(0, 17)], false⟩
  | 19 => some ⟨1, 8, [.v (.pointer none)], .st [(0, 17)], false⟩
  | 21 => some ⟨1, 4, [.v (.int .i32 0)], .int .i32, false⟩
  | 22 => some ⟨1, 24, [.v (.slice none 0 0)], .sl 43, false⟩
  | 23 => some ⟨1, 8, [.v (.nilFunc)], .fn, false⟩
  | 24 => some ⟨1, 8, [.v (.nilFunc)], .fn, false⟩
  | 25 => some ⟨1, 24, [.v (.slice none 0 0)], .sl 5, false⟩
  | 26 => some ⟨1, 24, [.v (.slice none 0 0)], .sl 9, false⟩
  | 27 => some ⟨2, 16, [.v (.int .i64 0), .v (.int .i64 0)], .arr 2 3, false⟩
  | 28 => some ⟨11, 120, [.v (.int .i64 0), .v (.int .i64 0), .v (.int .i64 0), .v (.int .i64 0), .v (.int .i64 0), .v (.slice none 0 0), .v (.slice none 0 0), .v (.int .i64 0), .v (.int .i64 0), .v (.int .i64 0), .v (.int .i64 0)], .st [(0, 3), (1, 3), (2, 3), (3, 3), (4, 3), (5, 25), (6, 26), (7, 3), (8, 27), (10, 3)], false⟩
  | 29 => some ⟨11, 120, [.v (.int .i64 0), .v (.int .i64 0), .v (.int .i64 0), .v (.int .i64 0), .v (.int .i64 0), .v (.slice none 0 0), .v (.slice none 0 0), .v (.int .i64 0), .v (.int .i64 0), .v (.int .i64 0), .v (.int .i64 0)], .st [(0, 3), (1, 3), (2, 3), (3, 3), (4, 3), (5, 25), (6, 26), (7, 3), (8, 27), (10, 3)], false⟩
  | 30 => some ⟨16, 168, [.v (.bool false), .v (.int .i64 0), .v (.int .i64 0), .v (.int .i64 0), .v (.int .i64 0), .v (.int .i64 0), .v (.int .i64 0), .v (.int .i64 0), .v (.int .i64 0), .v (.slice none 0 0), .v (.slice none 0 0), .v (.int .i64 0), .v (.int .i64 0), .v (.int .i64 0), .v (.int .i64 0), .v (.string ⟨#[]⟩)], .st [(0, 4), (1, 2), (2, 2), (3, 2), (4, 29), (15, 9)], false⟩
  | 31 => some ⟨16, 168, [.v (.bool false), .v (.int .i64 0), .v (.int .i64 0), .v (.int .i64 0), .v (.int .i64 0), .v (.int .i64 0), .v (.int .i64 0), .v (.int .i64 0), .v (.int .i64 0), .v (.slice none 0 0), .v (.slice none 0 0), .v (.int .i64 0), .v (.int .i64 0), .v (.int .i64 0), .v (.int .i64 0), .v (.string ⟨#[]⟩)], .st [(0, 4), (1, 2), (2, 2), (3, 2), (4, 29), (15, 9)], false⟩
  | 32 => some ⟨1, 24, [.v (.slice none 0 0)], .sl 88, false⟩
  | 33 => some ⟨1, 8, [.v (.int .i64 0)], .int .i64, false⟩
  | 35 => some ⟨1, 8, [.v (.nilFunc)], .fn, false⟩
  | 37 => some ⟨1, 8, [.v (.nilFunc)], .fn, false⟩
  | 38 => some ⟨1, 4, [.v (.int .u32 0)], .int .u32, false⟩
  | 39 => some ⟨1, 4, [.v (.int .u32 0)], .int .u32, false⟩
  | 40 => some ⟨1, 8, [.v (.int .u64 0)], .int .u64, false⟩
  | 41 => some ⟨1, 2, [.v (.int .u16 0)], .int .u16, false⟩
  | 42 => some ⟨6, 32, [.v (.int .u8 0), .v (.string ⟨#[]⟩), .v (.int .u8 0), .v (.int .u8 0), .v (.int .u16 0), .v (.int .u16 0)], .st [(0, 5), (1, 9), (2, 5), (3, 5), (4, 41), (5, 41)], true⟩
  | 43 => some ⟨6, 32, [.v (.int .u8 0), .v (.string ⟨#[]⟩), .v (.int .u8 0), .v (.int .u8 0), .v (.int .u16 0), .v (.int .u16 0)], .st [(0, 5), (1, 9), (2, 5), (3, 5), (4, 41), (5, 41)], true⟩
  | _ => none
theorem tabc_ok_0 : TabOk Tryd.prog tabc_0 := by
  intro t i h
  unfold tabc_0 at h
  split at h
  · exact Option.some.inj h ▸ ty_1
  · exact Option.some.inj h ▸ ty_2
  · exact Option.some.inj h ▸ ty_3
  · exact Option.some.inj h ▸ ty_4
  · exact Option.some.inj h ▸ ty_5
  · exact Option.some.inj h ▸ ty_6
  · exact Option.some.inj h ▸ ty_7
  · exact Option.some.inj h ▸ ty_8
  · exact Option.some.inj h ▸ ty_9
  · exact Option.some.inj h ▸ ty_10
  · exact Option.some.inj h ▸ ty_11
  · exact Option.some.inj h ▸ ty_12
  · exact Option.some.inj h ▸ ty_13
  · exact Option.some.inj h ▸ ty_14
  · exact Option.some.inj h ▸ ty_15
  · exact Option.some.inj h ▸ ty_16
  · exact Option.some.inj h ▸ ty_17
  · exact Option.some.inj h ▸ ty_18
  · exact Option.some.inj h ▸ ty_19
  · exact Option.some.inj h ▸ ty_21
  · exact Option.some.inj h ▸ ty_22
  · exact Option.some.inj h ▸ ty_23
  · exact Option.some.inj h ▸ ty_24
  · exact Option.some.inj h ▸ ty_25
  · exact Option.some.inj h ▸ ty_26
  · exact Option.some.inj h ▸ ty_27
  · exact Option.some.inj h ▸ ty_28
  · exact Option.some.inj h ▸ ty_29
  · exact Option.some.inj h ▸ ty_30
  · exact Option.some.inj h ▸ ty_31
  · exact Option.some.inj h ▸ ty_32
  · exact Option.some.inj h ▸ ty_33
  · exact Option.some.inj h ▸ ty_35
  · exact Option.some.inj h ▸ ty_37
  · exact Option.some.inj h ▸ ty_38
  · exact Option.some.inj h ▸ ty_39
  · exact Option.some.inj h ▸ ty_40
  · exact Option.some.inj h ▸ ty_41
  · exact Option.some.inj h ▸ ty_42
  · exact Option.some.inj h ▸ ty_43
  · cases h
def tabc_1 : Nat → Option TyI
  | 44 => some ⟨1, 8, [.v (.nilFunc)], .fn, false⟩
  | 45 => some ⟨1, 8, [.v (.nilFunc)], .fn, false⟩
  | 47 => some ⟨1, 8, [.v (.nilFunc)], .fn, false⟩
  | 48 => some ⟨1, 24, [.v (.slice none 0 0)], .sl 2, false⟩
  | 49 => some ⟨6, 88, [.v (.int .i64 0), .v (.int .i64 0), .v (.int .i64 0), .v (.slice none 0 0), .v (.string ⟨#[]⟩), .v (.slice none 0 0)], .st [(0, 3), (1, 3), (2, 3), (3, 48), (4, 9), (5, 48)], false⟩
  | 50 => some ⟨6, 88, [.v (.int .i64 0), .v (.int .i64 0), .v (.int .i64 0), .v (.slice none 0 0), .v (.string ⟨#[]⟩), .v (.slice none 0 0)], .st [(0, 3), (1, 3), (2, 3), (3, 48), (4, 9), (5, 48)], false⟩
  | 51 => some ⟨1, 8, [.v (.nilFunc)], .fn, false⟩
  | 53 => some ⟨1, 8, [.v (.nilFunc)], .fn, false⟩
  | 54 => some ⟨1, 8, [.v (.nilFunc)], .fn, false⟩
  | 56 => some ⟨1, 8, [.v (.nilFunc)], .fn, false⟩
  | 57 => some ⟨1, 8, [.v (.nilFunc)], .fn, false⟩
  | 58 => some ⟨1, 8, [.v (.nilFunc)], .fn, false⟩
  | 65 => some ⟨4, 32, [.v (.int .i64 0), .v (.int .i64 0), .v (.int .i64 0), .v (.int .i64 0)], .st [(0, 3), (1, 3), (2, 3), (3, 3)], true⟩
  | 66 => some ⟨4, 32, [.v (.int .i64 0), .v (.int .i64 0), .v (.int .i64 0), .v (.int .i64 0)], .st [(0, 3), (1, 3), (2, 3), (3, 3)], true⟩
  | 67 => some ⟨1, 24, [.v (.slice none 0 0)], .sl 3, false⟩
  | 68 => some ⟨2, 16, [.v (.int .i64 0), .v (.int .i64 0)], .st [(0, 3), (1, 3)], true⟩
  | 69 => some ⟨2, 16, [.v (.int .i64 0), .v (.int .i64 0)], .st [(0, 3), (1, 3)], true⟩
  | 72 => some ⟨1, 24, [.v (.slice none 0 0)], .sl 50, false⟩
  | 74 => some ⟨3, 24, [.v (.int .u32 0), .v (.int .i64 0), .v (.int .i64 0)], .st [(0, 39), (1, 3), (2, 3)], true⟩
  | 75 => some ⟨3, 24, [.v (.int .u32 0), .v (.int .i64 0), .v (.int .i64 0)], .st [(0, 39), (1, 3), (2, 3)], true⟩
  | 76 => some ⟨1, 8, [.v (.map none)], .mp 2 127, false⟩
  | 77 => some ⟨1, 8, [.v (.map none)], .mp 2 130, false⟩
  | 78 => some ⟨4, 32, [.v (.bool false), .v (.int .i64 0), .v (.int .i64 0), .v (.int .i64 0)], .st [(0, 4), (1, 2), (2, 2), (3, 2)], true⟩
  | 79 => some ⟨4, 32, [.v (.bool false), .v (.int .i64 0), .v (.int .i64 0), .v (.int .i64 0)], .st [(0, 4), (1, 2), (2, 2), (3, 2)], true⟩
  | 80 => some ⟨11, 88, [.v (.int .u32 0), .v (.int .i64 0), .v (.int .i64 0), .v (.int .i64 0), .v (.int .i64 0), .v (.map none), .v (.map none), .v (.bool false), .v (.int .i64 0), .v (.int .i64 0), .v (.int .i64 0)], .st [(0, 75), (3, 3), (4, 3), (5, 76), (6, 77), (7, 79)], false⟩
  | 81 => some ⟨11, 88, [.v (.int .u32 0), .v (.int .i64 0), .v (.int .i64 0), .v (.int .i64 0), .v (.int .i64 0), .v (.map none), .v (.map none), .v (.bool false), .v (.int .i64 0), .v (.int .i64 0), .v (.int .i64 0)], .st [(0, 75), (3, 3), (4, 3), (5, 76), (6, 77), (7, 79)], false⟩
  | 84 => some ⟨1, 8, [.v (.map none)], .mp 2 4, false⟩
  | 86 => some ⟨1, 8, [.v (.nilFunc)], .fn, false⟩
  | 87 => some ⟨4, 72, [.v (.int .i64 0), .v (.slice none 0 0), .v (.string ⟨#[]⟩), .v (.slice none 0 0)], .st [(0, 3), (1, 48), (2, 9), (3, 48)], false⟩
  | 88 => some ⟨4, 72, [.v (.int .i64 0), .v (.slice none 0 0), .v (.string ⟨#[]⟩), .v (.slice none 0 0)], .st [(0, 3), (1, 48), (2, 9), (3, 48)], false⟩
  | 89 => some ⟨1, 8, [.v (.map none)], .mp 39 4, false⟩
  | 90 => some ⟨1, 24, [.v (.slice none 0 0)], .sl 39, false⟩
  | 99 => some ⟨1, 8, [.v (.nilFunc)], .fn, false⟩
  | 101 => some ⟨1, 8, [.v (.map none)], .mp 3 99, false⟩
  | 108 => some ⟨1, 8, [.v (.pointer none)], .ptr 110, false⟩
  | 109 => some ⟨2, 32, [.v (.pointer none), .v (.slice none 0 0)], .st [(0, 108), (1, 25)], false⟩
  | 110 => some ⟨2, 32, [.v (.pointer none), .v (.slice none 0 0)], .st [(0, 108), (1, 25)], false⟩
  | 120 => some ⟨12, 112, [.v (.int .u32 0), .v (.int .i64 0), .v (.int .i64 0), .v (.int .i64 0), .v (.int .i64 0), .v (.map none), .v (.map none), .v (.bool false), .v (.int .i64 0), .v (.int .i64 0), .v (.int .i64 0), .v (.slice none 0 0)], .st [(0, 81), (11, 32)], false⟩
  | 121 => some ⟨12, 112, [.v (.int .u32 0), .v (.int .i64 0), .v (.int .i64 0), .v (.int .i64 0), .v (.int .i64 0), .v (.map none), .v (.map none), .v (.bool false), .v (.int .i64 0), .v (.int .i64 0), .v (.int .i64 0), .v (.slice none 0 0)], .st [(0, 81), (11, 32)], false⟩
  | 126 => some ⟨4, 40, [.v (.int .i64 0), .v (.int .i64 0), .v (.int .i64 0), .v (.string ⟨#[]⟩)], .st [(0, 2), (1, 2), (2, 2), (3, 9)], true⟩
  | _ => none
theorem tabc_ok_1 : TabOk Tryd.prog tabc_1 := by
  intro t i h
  unfold tabc_1 at h
  split at h
  · exact Option.some.inj h ▸ ty_44
  · exact Option.some.inj h ▸ ty_45
  · exact Option.some.inj h ▸ ty_47
  · exact Option.some.inj h ▸ ty_48
  · exact Option.some.inj h ▸ ty_49
  · exact Option.some.inj h ▸ ty_50
  · exact Option.some.inj h ▸ ty_51
  · exact Option.some.inj h ▸ ty_53
  · exact Option.some.inj h ▸ ty_54
  · exact Option.some.inj h ▸ ty_56
  · exact Option.some.inj h ▸ ty_57
  · exact Option.some.inj h ▸ ty_58
  · exact Option.some.inj h ▸ ty_65
  · exact Option.some.inj h ▸ ty_66
  · exact Option.some.inj h ▸ ty_67
  · exact Option.some.inj h ▸ ty_68
  · exact Option.some.inj h ▸ ty_69
  · exact Option.some.inj h ▸ ty_72
  · exact Option.some.inj h ▸ ty_74
  · exact Option.some.inj h ▸ ty_75
  · exact Option.some.inj h ▸ ty_76
  · exact Option.some.inj h ▸ ty_77
  · exact Option.some.inj h ▸ ty_78
  · exact Option.some.inj h ▸ ty_79
  · exact Option.some.inj h ▸ ty_80
  · exact Option.some.inj h ▸ ty_81
  · exact Option.some.inj h ▸ ty_84
  · exact Option.some.inj h ▸ ty_86
  · exact Option.some.inj h ▸ ty_87
  · exact Option.some.inj h ▸ ty_88
  · exact Option.some.inj h ▸ ty_89
  · exact Option.some.inj h ▸ ty_90
  · exact Option.some.inj h ▸ ty_99
  · exact Option.some.inj h ▸ ty_101
  · exact Option.some.inj h ▸ ty_108
  · exact Option.some.inj h ▸ ty_109
  · exact Option.some.inj h ▸ ty_110
  · exact Option.some.inj h ▸ ty_120
  · exact Option.some.inj h ▸ ty_121
  · exact Option.some.inj h ▸ ty_126
  · cases h
def tabc_2 : Nat → Option TyI
  | 127 => some ⟨4, 40, [.v (.int .i64 0), .v (.int .i64 0), .v (.int .i64 0), .v (.string ⟨#[]⟩)], .st [(0, 2), (1, 2), (2, 2), (3, 9)], true⟩
  | 129 => some ⟨5, 40, [.v (.int .i64 0), .v (.int .i64 0), .v (.bool false), .v (.int .i64 0), .v (.int .i64 0)], .st [(0, 3), (1, 3), (2, 4), (3, 2), (4, 2)], true⟩
  | 130 => some ⟨5, 40, [.v (.int .i64 0), .v (.int .i64 0), .v (.bool false), .v (.int .i64 0), .v (.int .i64 0)], .st [(0, 3), (1, 3), (2, 4), (3, 2), (4, 2)], true⟩
  | 132 => some ⟨3, 40, [.v (.slice none 0 0), .v (.bool false), .v (.int .i64 0)], .st [(0, 67), (1, 4), (2, 3)], false⟩
  | 133 => some ⟨3, 40, [.v (.slice none 0 0), .v (.bool false), .v (.int .i64 0)], .st [(0, 67), (1, 4), (2, 3)], false⟩
  | 137 => some ⟨1, 8, [.v (.nilFunc)], .fn, false⟩
  | 138 => some ⟨1, 8, [.v (.map none)], .mp 3 137, false⟩
  | 140 => some ⟨1, 8, [.v (.pointer none)], .ptr 121, false⟩
  | 144 => some ⟨3, 64, [.v (.slice none 0 0), .v (.string ⟨#[]⟩), .v (.slice none 0 0)], .st [(0, 48), (1, 9), (2, 48)], false⟩
  | 145 => some ⟨3, 64, [.v (.slice none 0 0), .v (.string ⟨#[]⟩), .v (.slice none 0 0)], .st [(0, 48), (1, 9), (2, 48)], false⟩
  | 148 => some ⟨1, 8, [.v (.pointer none)], .ptr 29, false⟩
  | 149 => some ⟨1, 8, [.v (.pointer none)], .ptr 3, false⟩
  | 150 => some ⟨1, 8, [.v (.nilFunc)], .fn, false⟩
  | 152 => some ⟨1, 8, [.v (.map none)], .mp 5 150, false⟩
  | 158 => some ⟨256, 256, List.replicate 256 (.v (.bool false)), .arr 256 4, false⟩
  | 159 => some ⟨256, 256, List.replicate 256 (.v (.bool false)), .arr 256 4, false⟩
  | 163 => some ⟨1, 8, [.v (.pointer none)], .ptr 159, false⟩
  | 164 => some ⟨1, 8, [.v (.pointer none)], .ptr 5, false⟩
  | 168 => some ⟨1, 8, [.v (.nilFunc)], .fn, false⟩
  | 169 => some ⟨3, 48, [.v (.string ⟨#[]⟩), .v (.string ⟨#[]⟩), .v (.string ⟨#[]⟩)], .st [(0, 9), (1, 9), (2, 9)], true⟩
  | 170 => some ⟨3, 48, [.v (.string ⟨#[]⟩), .v (.string ⟨#[]⟩), .v (.string ⟨#[]⟩)], .st [(0, 9), (1, 9), (2, 9)], true⟩
  | 182 => some ⟨1, 8, [.v (.pointer none)], .oth, false⟩
  | 188 => some ⟨90, 1440, List.replicate 90 (.v (.string ⟨#[]⟩)), .arr 30 170, false⟩
  | 190 => some ⟨177, 2832, List.replicate 177 (.v (.string ⟨#[]⟩)), .arr 59 170, false⟩
  | 197 => some ⟨78, 1248, List.replicate 78 (.v (.string ⟨#[]⟩)), .arr 26 170, false⟩
  | 205 => some ⟨1, 8, [.v (.int .i64 0)], .int .i64, false⟩
  | 215 => some ⟨1, 8, [.v (.int .u64 0)], .int .u64, false⟩
  | 222 => some ⟨256, 256, List.replicate 256 (.v (.int .u8 0)), .arr 256 5, false⟩
  | 224 => some ⟨1, 8, [.v (.nilFunc)], .fn, false⟩
  | 226 => some ⟨1, 8, [.v (.int .u64 0)], .int .u64, false⟩
  | 234 => some ⟨1, 24, [.v (.slice none 0 0)], .sl 236, false⟩
  | 235 => some ⟨2, 16, [.v (.int .i64 0), .v (.int .i64 0)], .st [(0, 3), (1, 3)], true⟩
  | 236 => some ⟨2, 16, [.v (.int .i64 0), .v (.int .i64 0)], .st [(0, 3), (1, 3)], true⟩
  | 238 => some ⟨1, 8, [.v (.pointer none)], .ptr 247, false⟩
  | 239 => some ⟨1, 8, [.v (.pointer none)], .ptr 226, false⟩
  | 241 => some ⟨2, 2, [.v (.int .u8 0), .v (.int .u8 0)], .st [(0, 5), (1, 5)], true⟩
  | 242 => some ⟨2, 2, [.v (.int .u8 0), .v (.int .u8 0)], .st [(0, 5), (1, 5)], true⟩
  | 243 => some ⟨32, 32, List.replicate 32 (.v (.int .u8 0)), .arr 16 242, false⟩
  | 244 => some ⟨1, 24, [.v (.slice none 0 0)], .sl 249, false⟩
  | 245 => some ⟨1, 24, [.v (.slice none 0 0)], .sl 252, false⟩
  | _ => none
theorem tabc_ok_2 : TabOk Tryd.prog tabc_2 := by
  intro t i h
  unfold tabc_2 at h
  split at h
  · exact Option.some.inj h ▸ ty_127
  · exact Option.some.inj h ▸ ty_129
  · exact Option.some.inj h ▸ ty_130
  · exact Option.some.inj h ▸ ty_132
  · exact Option.some.inj h ▸ ty_133
  · exact Option.some.inj h ▸ ty_137
  · exact Option.some.inj h ▸ ty_138
  · exact Option.some.inj h ▸ ty_140
  · exact Option.some.inj h ▸ ty_144
  · exact Option.some.inj h ▸ ty_145
  · exact Option.some.inj h ▸ ty_148
  · exact Option.some.inj h ▸ ty_149
  · exact Option.some.inj h ▸ ty_150
  · exact Option.some.inj h ▸ ty_152
  · exact Option.some.inj h ▸ ty_158
  · exact Option.some.inj h ▸ ty_159
  · exact Option.some.inj h ▸ ty_163
  · exact Option.some.inj h ▸ ty_164
  · exact Option.some.inj h ▸ ty_168
  · exact Option.some.inj h ▸ ty_169
  · exact Option.some.inj h ▸ ty_170
  · exact Option.some.inj h ▸ ty_182
  · exact Option.some.inj h ▸ ty_188
  · exact Option.some.inj h ▸ ty_190
  · exact Option.some.inj h ▸ ty_197
  · exact Option.some.inj h ▸ ty_205
  · exact Option.some.inj h ▸ ty_215
  · exact Option.some.inj h ▸ ty_222
  · exact Option.some.inj h ▸ ty_224
  · exact Option.some.inj h ▸ ty_226
  · exact Option.some.inj h ▸ ty_234
  · exact Option.some.inj h ▸ ty_235
  · exact Option.some.inj h ▸ ty_236
  · exact Option.some.inj h ▸ ty_238
  · exact Option.some.inj h ▸ ty_239
  · exact Option.some.inj h ▸ ty_241
  · exact Option.some.inj h ▸ ty_242
  · exact Option.some.inj h ▸ ty_243
  · exact Option.some.inj h ▸ ty_244
  · exact Option.some.inj h ▸ ty_245
  · cases h
def tabc_3 : Nat → Option TyI
  | 246 => some ⟨3, 56, [.v (.slice none 0 0), .v (.slice none 0 0), .v (.int .i64 0)], .st [(0, 244), (1, 245), (2, 3)], false⟩
  | 247 => some ⟨3, 56, [.v (.slice none 0 0), .v (.slice none 0 0), .v (.int .i64 0)], .st [(0, 244), (1, 245), (2, 3)], false⟩
  | 248 => some ⟨3, 6, [.v (.int .u16 0), .v (.int .u16 0), .v (.int .u16 0)], .st [(0, 41), (1, 41), (2, 41)], true⟩
  | 249 => some ⟨3, 6, [.v (.int .u16 0), .v (.int .u16 0), .v (.int .u16 0)], .st [(0, 41), (1, 41), (2, 41)], true⟩
  | 251 => some ⟨3, 12, [.v (.int .u32 0), .v (.int .u32 0), .v (.int .u32 0)], .st [(0, 38), (1, 38), (2, 38)], true⟩
  | 252 => some ⟨3, 12, [.v (.int .u32 0), .v (.int .u32 0), .v (.int .u32 0)], .st [(0, 38), (1, 38), (2, 38)], true⟩
  | 254 => some ⟨1, 8, [.v (.pointer none)], .ptr 249, false⟩
  | 255 => some ⟨1, 8, [.v (.pointer none)], .ptr 252, false⟩
  | 256 => some ⟨4, 40, [.v (.pointer none), .v (.pointer none), .v (.pointer none), .v (.string ⟨#[]⟩)], .st [(0, 17), (1, 17), (2, 17), (3, 9)], false⟩
  | 257 => some ⟨4, 40, [.v (.pointer none), .v (.pointer none), .v (.pointer none), .v (.string ⟨#[]⟩)], .st [(0, 17), (1, 17), (2, 17), (3, 9)], false⟩
  | 258 => some ⟨0, 0, [], .arr 0 16, false⟩
  | 259 => some ⟨0, 0, [], .st [(0, 258)], false⟩
  | 260 => some ⟨0, 0, [], .st [(0, 258)], false⟩
  | 262 => some ⟨1, 1, [.v (.int .u8 0)], .int .u8, false⟩
  | 263 => some ⟨1, 1, [.v (.int .u8 0)], .int .u8, false⟩
  | 265 => some ⟨1, 4, [.v (.int .i32 0)], .int .i32, false⟩
  | 266 => some ⟨1, 4, [.v (.int .i32 0)], .int .i32, false⟩
  | 267 => some ⟨11, 48, [.v (.int .u64 0), .v (.int .u64 0), .v (.int .u32 0), .v (.int .u8 0), .v (.int .u8 0), .v (.int .u8 0), .v (.int .u8 0), .v (.nilFunc), .v (.pointer none), .v (.int .i32 0), .v (.int .i32 0)], .st [(0, 12), (1, 12), (2, 38), (3, 262), (4, 5), (5, 5), (6, 263), (7, 264), (8, 164), (9, 265), (10, 266)], false⟩
  | 268 => some ⟨11, 48, [.v (.int .u64 0), .v (.int .u64 0), .v (.int .u32 0), .v (.int .u8 0), .v (.int .u8 0), .v (.int .u8 0), .v (.int .u8 0), .v (.nilFunc), .v (.pointer none), .v (.int .i32 0), .v (.int .i32 0)], .st [(0, 12), (1, 12), (2, 38), (3, 262), (4, 5), (5, 5), (6, 263), (7, 264), (8, 164), (9, 265), (10, 266)], false⟩
  | _ => none
theorem tabc_ok_3 : TabOk Tryd.prog tabc_3 := by
  intro t i h
  unfold tabc_3 at h
  split at h
  · exact Option.some.inj h ▸ ty_246
  · exact Option.some.inj h ▸ ty_247
  · exact Option.some.inj h ▸ ty_248
  · exact Option.some.inj h ▸ ty_249
  · exact Option.some.inj h ▸ ty_251
  · exact Option.some.inj h ▸ ty_252
  · exact Option.some.inj h ▸ ty_254
  · exact Option.some.inj h ▸ ty_255
  · exact Option.some.inj h ▸ ty_256
  · exact Option.some.inj h ▸ ty_257
  · exact Option.some.inj h ▸ ty_258
  · exact Option.some.inj h ▸ ty_259
  · exact Option.some.inj h ▸ ty_260
  · exact Option.some.inj h ▸ ty_262
  · exact Option.some.inj h ▸ ty_263
  · exact Option.some.inj h ▸ ty_265
  · exact Option.some.inj h ▸ ty_266
  · exact Option.some.inj h ▸ ty_267
  · exact Option.some.inj h ▸ ty_268
  · cases h
def tab (t : Nat) : Option TyI := (tabc_0 t).or ((tabc_1 t).or ((tabc_2 t).or ((tabc_3 t).or (none))))
theorem tab_ok : TabOk Tryd.prog tab := by
  intro t i h
  unfold tab at h
  rcases Option.or_eq_some_iff.1 h with h | ⟨-, h⟩
  · exact tabc_ok_0 t i h
  rcases Option.or_eq_some_iff.1 h with h | ⟨-, h⟩
  · exact tabc_ok_1 t i h
  rcases Option.or_eq_some_iff.1 h with h | ⟨-, h⟩
  · exact tabc_ok_2 t i h
  rcases Option.or_eq_some_iff.1 h with h | ⟨-, h⟩
  · exact tabc_ok_3 t i h
  cases h
end
section
open Go.RowKit
set_option maxRecDepth 10000

end
section
open Go.RowKit
set_option maxRecDepth 10000
end
section
open Go.RowKit
set_option maxRecDepth 10000

/- a byte of a command -/
end
section
open Go.RowKit
set_option maxRecDepth 10000
theorem CallT.empty {P : Program} {f : FuncId} {Q : T → Hp → Prop} (hgo : goB P f = true) (h : ∀ A k, CallT P f [.v (.slice A 0 k)] [] Q) : CallT P f [.islc [] 0 none] [] Q :=
  ⟨hgo, fun X0 M us hS hr => by
    obtain ⟨u, q, rfl, ⟨A, k, rfl, h2⟩, hq⟩ := hr
    exact (h A k).2 X0 M _ hS ⟨_, q, rfl, rfl, hq⟩⟩
end
section
open Go.RowKit
set_option maxRecDepth 10000
theorem isClient_p (c : Int) : CallP Tryd.prog 67 [I64 c] (BL (decide (1 ≤ c) && decide (c ≤ 8))) := by
  refine CallP.intro2 au_pu au_pu ?_
  refine CallT.intro tab_ok Tryd.func67 rfl (by kernel_rfl) (Nat.le_of_ble_eq_true rfl) ?_
  refine VC.reg tab_ok [] rfl ?_
  refine VX.meek rfl ?_
  refine VX.nil ?_
  refine VC.reg tab_ok [] rfl ?_
  iterate 3 refine VX.meek rfl ?_
  refine' VX.merge (d := 8) [_, _, _] rfl ?_ rfl ?_
  rotate_left
  · refine VX.guard rfl rfl (fun hb1_2 => ?_) (fun hb1_2 => ?_)
    · have ghb1_2 := hb1_2
      try simp only [au_std, Bool.not_true, Bool.not_false] at ghb1_2
      refine VX.meek rfl ?_
      refine VX.guardT rfl rfl hb1_2 ?_
      refine VX.meek rfl ?_
      refine VX.pickA rfl (fun _ => rfl) ?_
      exact VX.nil ⟨rfl, rfl⟩
    · refine VX.guardF rfl rfl hb1_2 ?_
      exact VX.pickA rfl (fun h => absurd (h.symm.trans hb1_2) (by decide)) (VX.nil ⟨rfl, rfl⟩)
  refine VX.meek rfl ?_
  refine VX.nil ?_
  refine VC.ret ?_
  exact ⟨trivial, _, rfl, Cv.eq (by cases decide (1 ≤ c) <;> rfl) rfl⟩
theorem base_p (c : Nat) (h1 : 1 ≤ c) (h2 : c ≤ 8) : CallP Tryd.prog 36 [I64 c] (.tup [.v (.int .u32 ((c * 1048576 : Nat) : Int)), BL true]) := by
  have hi : CallP Tryd.prog 67 [I64 c] (BL true) := by
    have := isClient_p c
    rwa [show (decide (1 ≤ (c : Int)) && decide ((c : Int) ≤ 8)) = true from by simp; omega] at this
  have w32 : ∀ {n : Int}, 0 ≤ n ∧ n < 4294967296 → IntKind.u32.wrap n = n := fun {n} h => by show n.emod _ = n; exact Int.emod_eq_of_lt h.1 h.2
  refine CallP.intro2 au_pu au_pu ?_
  refine CallT.intro tab_ok Tryd.func36 rfl (by kernel_rfl) (Nat.le_of_ble_eq_true rfl) ?_
  refine VC.reg tab_ok [] rfl ?_
  iterate 2 refine VX.meek rfl ?_
  refine VX.nil ?_
  refine VC.seq ?_
  refine VC.reg tab_ok [] rfl ?_
  refine VX.meek rfl ?_
  refine VX.callP0 rfl rfl rfl (hi) ?_
  refine VX.meek rfl ?_
  refine VX.nil ?_
  refine VC.cond rfl (fun hc0 => ?_) (fun hc0 => ?_)
  · exact absurd hc0 (by decide)
  · (try simp only [au_std] at hc0)
    refine VC.skip ?_
    refine VC.reg tab_ok [] rfl ?_
    refine VX.meek rfl ?_
    refine VX.meek (t := .v (.int .u32 (c : Int))) (by show some (T.v (.int .u32 (IntKind.u32.wrap (c : Int))), (none : Option (Nat × List T))) = _; rw [w32 (by omega)]) ?_
    refine VX.meek (t := .v (.int .u32 ((c * 1048576 : Nat) : Int))) (by show some (T.v (.int .u32 (IntKind.u32.wrap ((c : Int) * 1048576))), (none : Option (Nat × List T))) = _; rw [w32 (by omega)]; rfl) ?_
    iterate 2 refine VX.meek rfl ?_
    refine VX.nil ?_
    refine VC.ret ?_
    exact ⟨trivial, _, rfl, Cv.eq (by first | rfl | (simp [*]; done)) rfl⟩
end
section
open Go.RowKit
set_option maxRecDepth 10000
set_option maxHeartbeats 1000000
structure Rq where
  code : Int
  n : List Int
  b : List UInt8
  l : List Int
deriving DecidableEq, Inhabited
abbrev cIf (l : List Int) : T := .islc (encL cI l) l.length none
end
section
open Go.RowKit
set_option maxRecDepth 10000
structure Fr where
  fr : Int
  w : Int
  h : Int
  title : List UInt8
deriving DecidableEq, Inhabited
structure Wt where
  g : Int
  known : Bool
  w : Int
  h : Int
deriving DecidableEq, Inhabited
structure Mg where
  base : Int
  cnt : Int
  made : Int
  w : Int
  h : Int
  fresh : Bool
  F : List (Int × Fr)
  W : List (Int × Wt)
  on : Bool
  df : Int
  dx : Int
  dy : Int
deriving DecidableEq
def posK {α : Type} (l : List (Int × α)) (id : Int) : Option Nat := l.findIdx? (fun e => e.1 == id)
def posB {α : Type} (l : List (Int × α)) (p : α → Bool) : Option Nat := l.findIdx? (fun e => p e.2)
theorem findIdx_some {α : Type} {l : List α} {p : α → Bool} {i : Nat} (h : l.findIdx? p = some i) : ∃ e, l[i]? = some e ∧ p e = true := by
  obtain ⟨h1, h2, -⟩ := List.findIdx?_eq_some_iff_getElem.1 h
  exact ⟨l[i], List.getElem?_eq_getElem h1, h2⟩
theorem posK_some {α : Type} {l : List (Int × α)} {id : Int} {i : Nat} (h : posK l id = some i) : ∃ v, l[i]? = some (id, v) := by
  obtain ⟨⟨a, v⟩, h1, h2⟩ := findIdx_some h
  have : a = id := by simpa using h2
  subst this
  exact ⟨v, h1⟩
theorem posK_none {α : Type} {l : List (Int × α)} {id : Int} (h : posK l id = none) : id ∉ l.map Prod.fst := by
  intro hm
  obtain ⟨e, h1, h2⟩ := List.mem_map.1 hm
  have := List.findIdx?_eq_none_iff.1 h e h1
  simp [h2] at this
theorem posB_some {α : Type} {l : List (Int × α)} {p : α → Bool} {i : Nat} (h : posB l p = some i) : ∃ e, l[i]? = some e ∧ p e.2 = true := findIdx_some h
theorem posB_none {α : Type} {l : List (Int × α)} {p : α → Bool} (h : posB l p = none) : ∀ e ∈ l, p e.2 = false := fun e he => List.findIdx?_eq_none_iff.1 h e he
def rq (c : Int) (n : List Int) : Rq := ⟨c, n, [], []⟩
def farI (step all taken : Int) : Int := if taken ≥ all then 0 else if all - taken ≤ 0 ∨ 12582912 < all - taken then step else step % (all - taken + 1)
def spotX (n w X W : Int) : Int := X + farI (12 * min (max n 0) 1048576) W w
def spotY (n h Y H : Int) : Int := Y + farI (10 * min (max n 0) 1048576) H h
def titleB (v : Int) : UInt8 := if v < 32 ∨ v > 126 then 63 else UInt8.ofNat v.toNat
def titleL (row : List Int) : List UInt8 := (row.take 32).map titleB
def Mg.mapReq (m : Mg) (id : Int) : Mg × List Rq :=
  match posK m.F id with
  | some i => ({ m with cnt := m.cnt + 2 }, [rq 3 [id], rq 3 [(m.F[i]!).2.fr]])
  | none =>
    match posK m.W id with
    | some _ => (m, [])
    | none => ({ m with cnt := m.cnt + 2, W := m.W ++ [(id, ⟨m.cnt + 1, false, 0, 0⟩)] }, [rq 9 [id], rq 15 [id, 8, 0, 0, 64, 0]])
def Mg.refused (m : Mg) (seq : Int) : Mg :=
  match posB m.W (fun k => k.g == seq || k.g + 1 == seq) with
  | some i => { m with W := m.W.eraseIdx i }
  | none => m
def Mg.sized (m : Mg) (seq w h : Int) : Mg :=
  match posB m.W (fun k => k.g == seq) with
  | some i => { m with W := m.W.set i ((m.W[i]!).1, ⟨(m.W[i]!).2.g, w != 0, w, h⟩) }
  | none => m
def Mg.draw (m : Mg) (f : Fr) : Rq := ⟨36, [f.fr, m.base + 1, 1, 7, 1], f.title, []⟩
def Mg.manage (m : Mg) (id : Int) (k : Wt) (row : List Int) : Mg × List Rq :=
  if k.known = false then (m, [])
  else if 126 < k.w ∨ 118 < k.h then ({ m with cnt := m.cnt + 1 }, [rq 3 [id]])
  else
    let f : Fr := ⟨m.base + 10 + m.made, k.w, k.h, titleL row⟩
    ({ m with cnt := m.cnt + 7, made := m.made + 1, F := m.F ++ [(id, f)] },
      [rq 1 [f.fr, 1, spotX m.made (k.w + 2) 0 m.w, spotY m.made (k.h + 10) 0 m.h, k.w + 2, k.h + 10, 200, 1, 1], rq 7 [f.fr, 32, 0, 0, 0, 0, 0, 3356], rq 54 [id, 1], rq 6 [id, f.fr, 1, 9], rq 3 [id], rq 3 [f.fr], m.draw f])
def Mg.titled (m : Mg) (seq : Int) (row : List Int) : Mg × List Rq :=
  match posB m.W (fun k => k.g + 1 == seq) with
  | some i => Mg.manage { m with W := m.W.eraseIdx i } (m.W[i]!).1 (m.W[i]!).2 row
  | none => (m, [])
def bit (mask k : Int) : Bool := mask / k % 2 == 1
def confW (f : Fr) (mask w : Int) : Int := if bit mask 4 then w else f.w
def confH (f : Fr) (mask h : Int) : Int := if bit mask 8 then h else f.h
def confBig (f : Fr) (mask w h : Int) : Bool := (bit mask 4 || bit mask 8) && (decide (1 ≤ confW f mask w) && decide (confW f mask w ≤ 126) && decide (1 ≤ confH f mask h) && decide (confH f mask h ≤ 118))
def confA (f : Fr) (id mask x y w h mode : Int) : List Rq :=
  (if confBig f mask w h then [rq 5 [id, 12, 0, 0, confW f mask w, confH f mask h, 0, 0], rq 5 [f.fr, 12, 0, 0, confW f mask w + 2, confH f mask h + 10, 0, 0]] else [])
    ++ (if bit mask 1 || bit mask 2 then [rq 5 [f.fr, mask % 4, x, y, 0, 0, 0, 0]] else []) ++ (if bit mask 16 then [rq 5 [f.fr, 16, 0, 0, 0, 0, 0, mode]] else [])
theorem confA_len (f : Fr) (id mask x y w h mode : Int) : (confA f id mask x y w h mode).length ≤ 4 := by
  unfold confA
  rw [List.length_append, List.length_append]
  have h1 : ∀ (b : Bool) (p q : Rq), (if b then [p, q] else []).length ≤ 2 := fun b p q => by cases b <;> simp
  have h2 : ∀ (b : Bool) (p : Rq), (if b then [p] else []).length ≤ 1 := fun b p => by cases b <;> simp
  have := h1 (confBig f mask w h) (rq 5 [id, 12, 0, 0, confW f mask w, confH f mask h, 0, 0]) (rq 5 [f.fr, 12, 0, 0, confW f mask w + 2, confH f mask h + 10, 0, 0])
  have := h2 (bit mask 1 || bit mask 2) (rq 5 [f.fr, mask % 4, x, y, 0, 0, 0, 0])
  have := h2 (bit mask 16) (rq 5 [f.fr, 16, 0, 0, 0, 0, 0, mode])
  omega
def Mg.conf (m : Mg) (id mask x y w h sib mode : Int) : Mg × List Rq :=
  match posK m.F id with
  | none => ({ m with cnt := m.cnt + 1 }, [rq 5 [id, mask, x, y, w, h, sib, mode]])
  | some i => ({ m with cnt := m.cnt + ((confA (m.F[i]!).2 id mask x y w h mode).length : Nat), F := if confBig (m.F[i]!).2 mask w h then m.F.set i (id, ⟨(m.F[i]!).2.fr, confW (m.F[i]!).2 mask w, confH (m.F[i]!).2 mask h, (m.F[i]!).2.title⟩) else m.F }, confA (m.F[i]!).2 id mask x y w h mode)
def Mg.own (m : Mg) (event id : Int) : Option Nat :=
  match posK m.F id with
  | some i => if (m.F[i]!).2.fr = event then some i else none
  | none => none
def Mg.unmap (m : Mg) (event id : Int) : Mg × List Rq :=
  match m.own event id with
  | some i => ({ m with cnt := m.cnt + 1 }, [rq 4 [(m.F[i]!).2.fr]])
  | none => (m, [])
def Mg.forget (m : Mg) (i : Nat) : Mg × List Rq :=
  let f := (m.F[i]!).2.fr
  let hit := m.on && (m.df == f)
  ({ m with cnt := m.cnt + 1, F := m.F.eraseIdx i, on := if hit then false else m.on, df := if hit then 0 else m.df, dx := if hit then 0 else m.dx, dy := if hit then 0 else m.dy }, [rq 2 [f]])
def Mg.destroy (m : Mg) (event id : Int) : Mg × List Rq :=
  match m.own event id with
  | some i => m.forget i
  | none => (m, [])
def Mg.reparent (m : Mg) (event id parent : Int) : Mg × List Rq :=
  match m.own event id with
  | some i => if parent = (m.F[i]!).2.fr then (m, []) else m.forget i
  | none => (m, [])
def Mg.of (m : Mg) (frame : Int) : Option Nat := posB m.F (fun f => f.fr == frame)
def Mg.expose (m : Mg) (frame count : Int) : Mg × List Rq :=
  match m.of frame with
  | some i => if count = 0 then ({ m with cnt := m.cnt + 1 }, [m.draw (m.F[i]!).2]) else (m, [])
  | none => (m, [])
def Mg.press (m : Mg) (frame x y : Int) : Mg × List Rq :=
  match m.of frame with
  | some i => ({ m with cnt := m.cnt + 1, on := true, df := (m.F[i]!).2.fr, dx := x, dy := y }, [rq 5 [(m.F[i]!).2.fr, 16, 0, 0, 0, 0, 0, 0]])
  | none => (m, [])
def boundI (v : Int) : Int := min (max v (-32768)) 32767
def Mg.move (m : Mg) (x y : Int) : Mg × List Rq :=
  if m.on = true then ({ m with cnt := m.cnt + 1 }, [rq 5 [m.df, 3, boundI (x - m.dx), boundI (y - m.dy), 0, 0, 0, 0]]) else (m, [])
def Mg.release (m : Mg) : Mg := { m with on := false, df := 0, dx := 0, dy := 0 }
def needsE (code : Int) : Nat :=
  if code = 17 then 2 else if code = 19 then 9 else if code = 16 then 2 else if code = 14 then 2 else if code = 20 then 6 else if code = 10 then 6 else if code = 3 then 9 else if code = 4 then 9 else if code = 5 then 9 else 0
def Mg.ev (m : Mg) (code : Int) (n : List Int) : Mg × List Rq :=
  if code = 17 then m.mapReq n[1]! else if code = 19 then m.conf n[1]! n[2]! n[3]! n[4]! n[5]! n[6]! n[7]! n[8]! else if code = 16 then m.unmap n[0]! n[1]! else if code = 14 then m.destroy n[0]! n[1]!
  else if code = 20 then m.reparent n[0]! n[1]! n[2]! else if code = 10 then m.expose n[0]! n[5]! else if code = 3 then m.press n[0]! n[4]! n[5]! else if code = 4 then (m.release, []) else if code = 5 then m.move n[6]! n[7]! else (m, [])
structure Ot where
  kind : Int
  code : Int
  seq : Int
  n : List Int
  b : List UInt8
  l : List Int
deriving DecidableEq
def Mg.step (m : Mg) (o : Ot) : Mg × List Rq :=
  let m := { m with fresh := false }
  if o.kind = 0 then (m.refused o.seq, [])
  else if o.kind = 1 then (if o.code = 9 ∧ 7 ≤ o.n.length then (m.sized o.seq o.n[3]! o.n[4]!, []) else if o.code = 15 ∧ 3 ≤ o.n.length then m.titled o.seq o.l else (m, []))
  else if o.kind = 2 then (if needsE o.code ≠ 0 ∧ needsE o.code ≤ o.n.length then m.ev o.code o.n else (m, []))
  else (m, [])
def newMg (c w h : Nat) : Mg := ⟨(c * 1048576 : Nat), 4, 0, w, h, true, [], [], false, 0, 0, 0⟩
/- what holds of every manager -/
def r32 (n : Int) : Prop := -2147483648 ≤ n ∧ n ≤ 2147483647
structure Mg.Ok (m : Mg) (top : Int) : Prop where
  base : 1048576 ≤ m.base ∧ m.base ≤ 8388608
  cnt : 0 ≤ m.made ∧ m.made ≤ m.cnt ∧ m.cnt ≤ top
  side : 1 ≤ m.w ∧ m.w ≤ 128 ∧ 1 ≤ m.h ∧ m.h ≤ 128
  fresh : m.fresh = true → m.F = [] ∧ m.W = []
  fk : (m.F.map Prod.fst).Nodup
  wk : (m.W.map Prod.fst).Nodup
  dis : ∀ e ∈ m.F, e.1 ∉ m.W.map Prod.fst
  fr : ∀ e ∈ m.F, m.base + 10 ≤ e.2.fr ∧ e.2.fr < m.base + 10 + m.made
  frs : (m.F.map (fun e => e.2.fr)).Nodup
  fs : ∀ e ∈ m.F, r32 e.2.w ∧ r32 e.2.h ∧ e.2.title.length ≤ 32
  wg : ∀ e ∈ m.W, 1 ≤ e.2.g ∧ e.2.g + 1 ≤ m.cnt
  wgs : m.W.Pairwise (fun a b => a.2.g + 1 < b.2.g)
  wv : ∀ e ∈ m.W, e.2.known = (e.2.w != 0) ∧ r32 e.2.w ∧ r32 e.2.h
  ids : (∀ e ∈ m.F, 0 ≤ e.1 ∧ e.1 ≤ 2147483647) ∧ (∀ e ∈ m.W, 0 ≤ e.1 ∧ e.1 ≤ 2147483647)
  dr : r32 m.df ∧ r32 m.dx ∧ r32 m.dy
  lens : m.F.length ≤ m.made ∧ m.W.length ≤ m.cnt
theorem newMg_ok (c w h : Nat) (h1 : 1 ≤ c) (h2 : c ≤ 8) (h3 : 1 ≤ w) (h4 : w ≤ 128) (h5 : 1 ≤ h) (h6 : h ≤ 128) : (newMg c w h).Ok 4 := by
  constructor <;> (try simp only [newMg, r32]) <;> (try simp) <;> (try omega)
theorem Mg.Ok.mono {m : Mg} {a b : Int} (ok : m.Ok a) (h : a ≤ b) : m.Ok b := { ok with cnt := ⟨ok.cnt.1, ok.cnt.2.1, by have := ok.cnt.2.2; omega⟩ }
theorem getM {α : Type} [Inhabited α] {l : List α} {i : Nat} {e : α} (h : l[i]? = some e) : l[i]! = e := by rw [List.getElem!_eq_getElem?_getD, h]; rfl
theorem mem_at {α : Type} {l : List α} {i : Nat} {e : α} (h : l[i]? = some e) : e ∈ l := List.mem_of_getElem? h
theorem nodup_inj {α β : Type} {l : List α} {f : α → β} (h : (l.map f).Nodup) {i j : Nat} {a b : α} (ha : l[i]? = some a) (hb : l[j]? = some b) (he : f a = f b) : i = j := by
  have h1 : (l.map f)[i]? = some (f a) := by rw [List.getElem?_map, ha]; rfl
  have h2 : (l.map f)[j]? = some (f a) := by rw [List.getElem?_map, hb, he]; rfl
  obtain ⟨k1, k2⟩ := List.getElem?_eq_some_iff.1 h1
  obtain ⟨k3, k4⟩ := List.getElem?_eq_some_iff.1 h2
  exact (List.getElem_inj h).1 (k2.trans k4.symm)
theorem posB_uniq {α : Type} {l : List (Int × α)} {p : α → Bool} {i : Nat} {e : Int × α} (he : l[i]? = some e) (hp : p e.2 = true) (hu : ∀ j e', l[j]? = some e' → p e'.2 = true → j = i) : posB l p = some i := by
  cases h : posB l p with
  | none => have := posB_none h e (mem_at he); rw [hp] at this; cases this
  | some j =>
    obtain ⟨e', h1, h2⟩ := posB_some h
    rw [hu j e' h1 h2]
theorem pair_at {α : Type} {r : α → α → Prop} {l : List α} (h : l.Pairwise r) {i j : Nat} {a b : α} (ha : l[i]? = some a) (hb : l[j]? = some b) (hij : i < j) : r a b := by
  obtain ⟨k1, rfl⟩ := List.getElem?_eq_some_iff.1 ha
  obtain ⟨k2, rfl⟩ := List.getElem?_eq_some_iff.1 hb
  exact List.pairwise_iff_getElem.1 h i j k1 k2 hij
theorem Mg.Ok.one {m : Mg} {top : Int} (ok : m.Ok top) (s : Int) {i j : Nat} {a b : Int × Wt} (ha : m.W[i]? = some a) (hb : m.W[j]? = some b) (h1 : s = a.2.g ∨ s = a.2.g + 1) (h2 : s = b.2.g ∨ s = b.2.g + 1) : i = j := by
  rcases Nat.lt_trichotomy i j with h | h | h
  · have := pair_at ok.wgs ha hb h; omega
  · exact h
  · have := pair_at ok.wgs hb ha h; omega
end
section
open Go.RowKit
set_option maxRecDepth 10000
theorem Mg.Ok.tick {m : Mg} {top k : Int} (ok : m.Ok top) (hk : 0 ≤ k) : ({ m with cnt := m.cnt + k } : Mg).Ok (top + k) :=
  { ok with
    cnt := ⟨ok.cnt.1, by have := ok.cnt.2.1; dsimp only; omega, by have := ok.cnt.2.2; dsimp only; omega⟩
    wg := fun e he => ⟨(ok.wg e he).1, by have := (ok.wg e he).2; dsimp only; omega⟩
    lens := ⟨ok.lens.1, by have := ok.lens.2; dsimp only; omega⟩ }
theorem Mg.Ok.stale {m : Mg} {top : Int} (ok : m.Ok top) : ({ m with fresh := false } : Mg).Ok top := { ok with fresh := fun h => by cases h }
theorem Mg.Ok.dropW {m : Mg} {top : Int} (ok : m.Ok top) (hf : m.fresh = false) (i : Nat) : ({ m with W := m.W.eraseIdx i } : Mg).Ok top :=
  have hs : (m.W.eraseIdx i).Sublist m.W := List.eraseIdx_sublist _ _
  { ok with
    fresh := fun h => by simp [hf] at h
    wk := ok.wk.sublist (hs.map _)
    dis := fun e he hm => ok.dis e he ((hs.map _).subset hm)
    wg := fun e he => ok.wg e (hs.subset he)
    wgs := ok.wgs.sublist hs
    wv := fun e he => ok.wv e (hs.subset he)
    ids := ⟨ok.ids.1, fun e he => ok.ids.2 e (hs.subset he)⟩
    lens := ⟨ok.lens.1, by have := ok.lens.2; have := hs.length_le; dsimp only; omega⟩ }
theorem Mg.Ok.dropF {m : Mg} {top : Int} (ok : m.Ok top) (hf : m.fresh = false) (i : Nat) : ({ m with F := m.F.eraseIdx i } : Mg).Ok top :=
  have hs : (m.F.eraseIdx i).Sublist m.F := List.eraseIdx_sublist _ _
  { ok with
    fresh := fun h => by simp [hf] at h
    fk := ok.fk.sublist (hs.map _)
    dis := fun e he => ok.dis e (hs.subset he)
    fr := fun e he => ok.fr e (hs.subset he)
    frs := ok.frs.sublist (hs.map _)
    fs := fun e he => ok.fs e (hs.subset he)
    ids := ⟨fun e he => ok.ids.1 e (hs.subset he), ok.ids.2⟩
    lens := ⟨by have := ok.lens.1; have := hs.length_le; dsimp only; omega, ok.lens.2⟩ }
theorem nodup_snoc {α : Type} {l : List α} {a : α} (h : l.Nodup) (ha : a ∉ l) : (l ++ [a]).Nodup :=
  List.nodup_append.2 ⟨h, by simp, fun x hx y hy => by rw [List.mem_singleton] at hy; subst hy; rintro rfl; exact ha hx⟩
theorem Mg.Ok.mapReq {m : Mg} {top : Int} (ok : m.Ok top) (hf : m.fresh = false) (id : Int) (hid : 0 ≤ id ∧ id ≤ 2147483647) : (m.mapReq id).1.Ok (top + 7) := by
  unfold Mg.mapReq
  cases h1 : posK m.F id with
  | some i => exact (ok.tick (k := 2) (by omega)).mono (by omega)
  | none =>
    cases h2 : posK m.W id with
    | some i => exact ok.mono (by omega)
    | none =>
      have t := ok.tick (k := 2) (by omega)
      have hnF := posK_none h1
      have hnW := posK_none h2
      refine Mg.Ok.mono (a := top + 2) ?_ (by omega)
      exact { t with
        fresh := fun h => by simp [hf] at h
        wk := by
          show ((m.W ++ [_]).map Prod.fst).Nodup
          rw [List.map_append]
          exact nodup_snoc ok.wk hnW
        dis := fun e he hm => by
          simp only [List.map_append, List.mem_append, List.map_cons, List.map_nil, List.mem_singleton] at hm
          rcases hm with hm | hm
          · exact ok.dis e he hm
          · exact hnF (List.mem_map.2 ⟨e, he, hm⟩)
        wg := fun e he => by
          have hc := ok.cnt
          simp only [List.mem_append, List.mem_singleton] at he
          rcases he with he | rfl
          · exact t.wg e he
          · dsimp only; omega
        wgs := by
          show (m.W ++ [_]).Pairwise _
          rw [List.pairwise_append]
          refine ⟨ok.wgs, List.pairwise_singleton _ _, fun a ha b hb => ?_⟩
          rw [List.mem_singleton] at hb
          subst hb
          have := (ok.wg a ha).2
          dsimp only; omega
        wv := fun e he => by
          simp only [List.mem_append, List.mem_singleton] at he
          rcases he with he | rfl
          · exact ok.wv e he
          · exact ⟨rfl, by unfold r32; dsimp only; omega, by unfold r32; dsimp only; omega⟩
        ids := ⟨ok.ids.1, fun e he => by
          simp only [List.mem_append, List.mem_singleton] at he
          rcases he with he | rfl
          · exact ok.ids.2 e he
          · exact hid⟩
        lens := ⟨ok.lens.1, by have := ok.lens.2; simp only [List.length_append, List.length_singleton]; omega⟩ }
theorem Mg.Ok.refused {m : Mg} {top : Int} (ok : m.Ok top) (hf : m.fresh = false) (s : Int) : (m.refused s).Ok top := by
  unfold Mg.refused
  split
  · exact ok.dropW hf _
  · exact ok
theorem set_map_eq {α β : Type} {l : List α} {f : α → β} {i : Nat} {a b : α} (h : l[i]? = some a) (he : f b = f a) : (l.set i b).map f = l.map f := by
  rw [List.map_set, he]
  refine List.ext_getElem? fun j => ?_
  rw [List.getElem?_set]
  by_cases hj : i = j
  · subst hj
    rw [if_pos rfl, List.getElem?_map, h]
    have := (List.getElem?_eq_some_iff.1 h).1
    rw [if_pos (by rw [List.length_map]; exact this)]; rfl
  · rw [if_neg hj]
theorem Mg.Ok.sized {m : Mg} {top : Int} (ok : m.Ok top) (hf : m.fresh = false) (s w h : Int) (hw : r32 w) (hh : r32 h) : (m.sized s w h).Ok top := by
  unfold Mg.sized
  cases hp : posB m.W (fun k => k.g == s) with
  | none => exact ok
  | some i =>
    obtain ⟨e, he, -⟩ := posB_some hp
    simp only [getM he]
    have hm := mem_at he
    have hk : ∀ x ∈ m.W.set i (e.1, ⟨e.2.g, w != 0, w, h⟩), x ∈ m.W ∨ x = (e.1, ⟨e.2.g, w != 0, w, h⟩) := fun x hx => List.mem_or_eq_of_mem_set hx
    have hf1 : (m.W.set i (e.1, ⟨e.2.g, w != 0, w, h⟩)).map Prod.fst = m.W.map Prod.fst := set_map_eq he rfl
    have hf2 : (m.W.set i (e.1, ⟨e.2.g, w != 0, w, h⟩)).map (fun x => x.2.g) = m.W.map (fun x => x.2.g) := set_map_eq he rfl
    exact { ok with
      fresh := fun h => by simp [hf] at h
      wk := by show ((m.W.set i _).map Prod.fst).Nodup; rw [hf1]; exact ok.wk
      dis := fun x hx => by show _ ∉ (m.W.set i _).map Prod.fst; rw [hf1]; exact ok.dis x hx
      wg := fun x hx => by
        rcases hk x hx with hx | rfl
        · exact ok.wg x hx
        · exact ok.wg e hm
      wgs := by
        have := ok.wgs
        have h1 : (m.W.map (fun x => x.2.g)).Pairwise (fun a b => a + 1 < b) := List.pairwise_map.2 this
        rw [← hf2] at h1
        exact List.pairwise_map.1 h1
      wv := fun x hx => by
        rcases hk x hx with hx | rfl
        · exact ok.wv x hx
        · exact ⟨rfl, hw, hh⟩
      ids := ⟨ok.ids.1, fun x hx => by
        rcases hk x hx with hx | rfl
        · exact ok.ids.2 x hx
        · exact ok.ids.2 e hm⟩
      lens := ⟨ok.lens.1, by have := ok.lens.2; simp only [List.length_set]; exact this⟩ }
theorem Mg.Ok.manage {m : Mg} {top : Int} (ok : m.Ok top) (hf : m.fresh = false) (id : Int) (k : Wt) (row : List Int) (hid : 0 ≤ id ∧ id ≤ 2147483647) (hF : id ∉ m.F.map Prod.fst) (hW : id ∉ m.W.map Prod.fst) (hw : r32 k.w) (hh : r32 k.h) (htop : top ≤ 1000000) : (m.manage id k row).1.Ok (top + 7) := by
  unfold Mg.manage
  split
  · exact ok.mono (by omega)
  · split
    · exact (ok.tick (k := 1) (by omega)).mono (by omega)
    · have t := ok.tick (k := 7) (by omega)
      have hb := ok.base
      have hc := ok.cnt
      exact { t with
        cnt := ⟨by dsimp only; omega, by dsimp only; omega, by dsimp only; omega⟩
        fresh := fun h => by simp [hf] at h
        fk := by
          show ((m.F ++ [_]).map Prod.fst).Nodup
          rw [List.map_append]
          exact nodup_snoc ok.fk hF
        dis := fun e he => by
          simp only [List.mem_append, List.mem_singleton] at he
          rcases he with he | rfl
          · exact ok.dis e he
          · exact hW
        fr := fun e he => by
          simp only [List.mem_append, List.mem_singleton] at he
          rcases he with he | rfl
          · have := ok.fr e he; dsimp only; omega
          · dsimp only; omega
        frs := by
          show ((m.F ++ [_]).map _).Nodup
          rw [List.map_append]
          refine nodup_snoc ok.frs fun hm => ?_
          obtain ⟨e, he, h2⟩ := List.mem_map.1 hm
          have := ok.fr e he
          dsimp only at h2
          omega
        fs := fun e he => by
          simp only [List.mem_append, List.mem_singleton] at he
          rcases he with he | rfl
          · exact ok.fs e he
          · exact ⟨hw, hh, by unfold titleL; rw [List.length_map, List.length_take]; omega⟩
        ids := ⟨fun e he => by
          simp only [List.mem_append, List.mem_singleton] at he
          rcases he with he | rfl
          · exact ok.ids.1 e he
          · exact hid, ok.ids.2⟩
        lens := ⟨by have := ok.lens.1; simp only [List.length_append, List.length_singleton]; omega, t.lens.2⟩ }
theorem nodup_erase {α β : Type} {l : List α} {f : α → β} (h : (l.map f).Nodup) {i : Nat} {e : α} (he : l[i]? = some e) : f e ∉ (l.eraseIdx i).map f := by
  intro hm
  obtain ⟨x, h1, h2⟩ := List.mem_map.1 hm
  obtain ⟨j, hj⟩ := List.mem_iff_getElem?.1 h1
  rw [List.getElem?_eraseIdx] at hj
  split at hj
  · have := nodup_inj h hj he h2; omega
  · have := nodup_inj h hj he h2; omega
theorem Mg.Ok.titled {m : Mg} {top : Int} (ok : m.Ok top) (hf : m.fresh = false) (s : Int) (row : List Int) (htop : top ≤ 1000000) : (m.titled s row).1.Ok (top + 7) := by
  unfold Mg.titled
  cases hp : posB m.W (fun k => k.g + 1 == s) with
  | none => exact ok.mono (by omega)
  | some i =>
    obtain ⟨e, he, -⟩ := posB_some hp
    simp only [getM he]
    have hm := mem_at he
    have hv := ok.wv e hm
    refine (ok.dropW hf i).manage hf e.1 e.2 row (ok.ids.2 e hm) (fun k => ?_) (nodup_erase ok.wk he) hv.2.1 hv.2.2 htop
    obtain ⟨x, h1, h2⟩ := List.mem_map.1 k
    exact ok.dis x h1 (h2 ▸ List.mem_map.2 ⟨e, hm, rfl⟩)
theorem Mg.Ok.setF {m : Mg} {top : Int} (ok : m.Ok top) (hf : m.fresh = false) {i : Nat} {id : Int} {v v' : Fr} (he : m.F[i]? = some (id, v)) (h1 : v'.fr = v.fr) (h2 : r32 v'.w ∧ r32 v'.h ∧ v'.title.length ≤ 32) : ({ m with F := m.F.set i (id, v') } : Mg).Ok top := by
  have hm := mem_at he
  have hk : ∀ x ∈ m.F.set i (id, v'), x ∈ m.F ∨ x = (id, v') := fun x hx => List.mem_or_eq_of_mem_set hx
  have hf1 : (m.F.set i (id, v')).map Prod.fst = m.F.map Prod.fst := set_map_eq he rfl
  have hf2 : (m.F.set i (id, v')).map (fun x => x.2.fr) = m.F.map (fun x => x.2.fr) := set_map_eq he h1
  exact { ok with
    fresh := fun h => by simp [hf] at h
    fk := by show ((m.F.set i _).map Prod.fst).Nodup; rw [hf1]; exact ok.fk
    dis := fun x hx => by
      rcases hk x hx with hx | rfl
      · exact ok.dis x hx
      · exact ok.dis (id, v) hm
    fr := fun x hx => by
      rcases hk x hx with hx | rfl
      · exact ok.fr x hx
      · have := ok.fr _ hm; dsimp only at *; rw [h1]; exact this
    frs := by show ((m.F.set i _).map _).Nodup; rw [hf2]; exact ok.frs
    fs := fun x hx => by
      rcases hk x hx with hx | rfl
      · exact ok.fs x hx
      · exact h2
    ids := ⟨fun x hx => by
      rcases hk x hx with hx | rfl
      · exact ok.ids.1 x hx
      · exact ok.ids.1 (id, v) hm, ok.ids.2⟩
    lens := ⟨by have := ok.lens.1; simp only [List.length_set]; exact this, ok.lens.2⟩ }
theorem Mg.Ok.conf {m : Mg} {top : Int} (ok : m.Ok top) (hf : m.fresh = false) (id mask x y w h sib mode : Int) : (m.conf id mask x y w h sib mode).1.Ok (top + 7) := by
  unfold Mg.conf
  cases hp : posK m.F id with
  | none => exact (ok.tick (k := 1) (by omega)).mono (by omega)
  | some i =>
    obtain ⟨v, he⟩ := posK_some hp
    simp only [getM he]
    have hl := confA_len v id mask x y w h mode
    have t := ok.tick (k := ((confA v id mask x y w h mode).length : Nat)) (by omega)
    refine Mg.Ok.mono (a := top + ((confA v id mask x y w h mode).length : Nat)) ?_ (by omega)
    cases hb : confBig v mask w h with
    | false => exact t
    | true =>
      have hb2 := hb
      unfold confBig at hb2
      simp only [Bool.and_eq_true, decide_eq_true_eq] at hb2
      exact t.setF hf he rfl ⟨by unfold r32; dsimp only; omega, by unfold r32; dsimp only; omega, (ok.fs _ (mem_at he)).2.2⟩
theorem Mg.Ok.forget {m : Mg} {top : Int} (ok : m.Ok top) (hf : m.fresh = false) (i : Nat) : (m.forget i).1.Ok (top + 7) := by
  unfold Mg.forget
  have t := (ok.dropF hf i).tick (k := 1) (by omega)
  have hd := ok.dr
  refine Mg.Ok.mono (a := top + 1) ?_ (by omega)
  exact { t with
    dr := by
      unfold r32 at *
      dsimp only
      refine ⟨?_, ?_, ?_⟩ <;> split <;> omega }
theorem Mg.Ok.press {m : Mg} {top : Int} (ok : m.Ok top) (fr x y : Int) (hx : r32 x) (hy : r32 y) (htop : top ≤ 1000000) : (m.press fr x y).1.Ok (top + 7) := by
  unfold Mg.press
  cases hp : m.of fr with
  | none => exact ok.mono (by omega)
  | some i =>
    obtain ⟨e, he, -⟩ := posB_some hp
    simp only [getM he]
    have hfr := ok.fr e (mem_at he)
    have hb := ok.base
    have hc := ok.cnt
    have t := ok.tick (k := 1) (by omega)
    refine Mg.Ok.mono (a := top + 1) ?_ (by omega)
    exact { t with dr := ⟨by unfold r32; dsimp only; omega, hx, hy⟩ }
theorem Mg.Ok.release {m : Mg} {top : Int} (ok : m.Ok top) : m.release.Ok top :=
  { ok with dr := ⟨by unfold r32; simp [Mg.release], by unfold r32; simp [Mg.release], by unfold r32; simp [Mg.release]⟩ }
theorem Mg.Ok.move {m : Mg} {top : Int} (ok : m.Ok top) (x y : Int) : (m.move x y).1.Ok (top + 7) := by
  unfold Mg.move
  split
  · exact (ok.tick (k := 1) (by omega)).mono (by omega)
  · exact ok.mono (by omega)
theorem Mg.Ok.unmap {m : Mg} {top : Int} (ok : m.Ok top) (a b : Int) : (m.unmap a b).1.Ok (top + 7) := by
  unfold Mg.unmap
  split
  · exact (ok.tick (k := 1) (by omega)).mono (by omega)
  · exact ok.mono (by omega)
theorem Mg.Ok.destroy {m : Mg} {top : Int} (ok : m.Ok top) (hf : m.fresh = false) (a b : Int) : (m.destroy a b).1.Ok (top + 7) := by
  unfold Mg.destroy
  split
  · exact ok.forget hf _
  · exact ok.mono (by omega)
theorem Mg.Ok.reparent {m : Mg} {top : Int} (ok : m.Ok top) (hf : m.fresh = false) (a b c : Int) : (m.reparent a b c).1.Ok (top + 7) := by
  unfold Mg.reparent
  split
  · split
    · exact ok.mono (by omega)
    · exact ok.forget hf _
  · exact ok.mono (by omega)
theorem Mg.Ok.expose {m : Mg} {top : Int} (ok : m.Ok top) (a b : Int) : (m.expose a b).1.Ok (top + 7) := by
  unfold Mg.expose
  split
  · split
    · exact (ok.tick (k := 1) (by omega)).mono (by omega)
    · exact ok.mono (by omega)
  · exact ok.mono (by omega)
structure Ot.Few (o : Ot) : Prop where
  n : ∀ v ∈ o.n, r32 v
  l : ∀ v ∈ o.l, r32 v
  pos : o.kind = 2 → ∀ v ∈ o.n.take 3, 0 ≤ v
theorem Ot.Few.at {o : Ot} (h : o.Few) {i : Nat} (hi : i < o.n.length) : r32 o.n[i]! := by rw [getElem!_pos o.n i hi]; exact h.n _ (List.getElem_mem hi)
theorem Ot.Few.first {o : Ot} (h : o.Few) (hk : o.kind = 2) {i : Nat} (hi : i < o.n.length) (h3 : i < 3) : 0 ≤ o.n[i]! ∧ o.n[i]! ≤ 2147483647 := by
  refine ⟨?_, (h.at hi).2⟩
  rw [getElem!_pos o.n i hi]
  exact h.pos hk _ (List.mem_iff_getElem?.2 ⟨i, by rw [List.getElem?_take_of_lt h3]; exact List.getElem?_eq_getElem hi⟩)
theorem Mg.Ok.step {m : Mg} {top : Int} (ok : m.Ok top) (o : Ot) (ho : o.Few) (htop : top ≤ 1000000) : (m.step o).1.Ok (top + 7) := by
  have ok2 := ok.stale
  have hf : ({ m with fresh := false } : Mg).fresh = false := rfl
  unfold Mg.step
  generalize ({ m with fresh := false } : Mg) = x at *
  dsimp only
  split
  · exact (ok2.refused hf _).mono (by omega)
  split
  · split
    · rename_i h; exact (ok2.sized hf _ _ _ (ho.at (by omega)) (ho.at (by omega))).mono (by omega)
    · split
      · exact ok2.titled hf _ _ htop
      · exact ok2.mono (by omega)
  split
  · rename_i hk
    split
    · rename_i h
      have hl := h.2
      unfold needsE at hl
      unfold Mg.ev
      split
      · rename_i hc; rw [if_pos hc] at hl; exact ok2.mapReq hf _ (ho.first hk (by omega) (by omega))
      rename_i c1; rw [if_neg c1] at hl
      split
      · rename_i hc; rw [if_pos hc] at hl; exact ok2.conf hf _ _ _ _ _ _ _ _
      rename_i c2; rw [if_neg c2] at hl
      split
      · exact ok2.unmap _ _
      rename_i c3; rw [if_neg c3] at hl
      split
      · exact ok2.destroy hf _ _
      rename_i c4; rw [if_neg c4] at hl
      split
      · exact ok2.reparent hf _ _ _
      rename_i c5; rw [if_neg c5] at hl
      split
      · exact ok2.expose _ _
      rename_i c6; rw [if_neg c6] at hl
      split
      · rename_i hc; rw [if_pos hc] at hl; exact ok2.press _ _ _ (ho.at (by omega)) (ho.at (by omega)) htop
      split
      · exact ok2.release.mono (by omega)
      split
      · exact ok2.move _ _
      · exact ok2.mono (by omega)
    · exact ok2.mono (by omega)
  · exact ok2.mono (by omega)
end
section
open Go.RowKit
set_option maxRecDepth 10000
set_option maxHeartbeats 1000000
section
variable {q : Bool} {P : Program} {tab : Tab} {im : List Nat} {ds : List (Option Nat)} {l : List Oper} {E : Env} {H Hm F : Hp} {K : Env → Hp → Prop} {d : Nat} {ty : TypeId} {pos : String} {after : Array Edge}
theorem VD.appT [Dr] {ops : Array Oper} {wd : List Bool} {x y : Operand} {t1 t2 : TypeId} {b o n z e n2 : Nat} {c : Option Nat} {tyv : T} {i j : TyI} {cs ys : List T} (hT : tab t1 = some i) (hk : i.k = .sl e) (hj : tab e = some j) (hx : E.opd x = some (.slc b o n z c)) (hy : E.opd y = some tyv) (hc : lookH F b = some cs)
    (hs : srcCells tab (lookH F) t2 j.sz tyv = some (ys, n2)) (hz : z = j.sz) (h1 : o + n * z ≤ cs.length) (h2 : (n + n2) * j.by_ ≤ 2 ^ 47) (h3 : n + n2 ≤ 2 ^ 47) (h4 : n2 * j.sz = ys.length) (h5 : ys.all cellB = true) (hsn : seenL Hm (setH F b .d ++ [.c ((cs.drop o).take (n * z) ++ ys)]))
    (k : VD P tab im ops Hm l wd ((d, .slc F.length 0 (n + n2) z none) :: E) (setH F b .d ++ [.c ((cs.drop o).take (n * z) ++ ys)]) K) : VD P tab im ops Hm (⟨some d, .call ⟨.builtin .append, #[x, y], #[t1, t2]⟩, ty, pos, after, none⟩ :: l) (true :: wd) E F K := by
  refine VD.app hx hy ?_ hsn k
  simp only [mAppend, hT, hk, hj, hs, hc]
  rw [if_pos ⟨hz, h1, h2, h3, h4, h5⟩]
end
def cRn : Cd Rq := ⟨4, fun r => [I64 r.code, cIf r.n, strT r.b, NIL], fun _ => rfl, fun r => by simp only [T.pureL, T.pure, encL_pure]; rfl, fun _ => rfl, by decide⟩
theorem cRn_sz : cRn.sz = 4 := rfl
abbrev frC (f : Fr) : List T := [I64 f.fr, I64 f.w, I64 f.h, strT f.title]
abbrev frT (f : Fr) : T := .agg (frC f)
abbrev wtC (k : Wt) : List T := [I64 k.g, I64 (k.g + 1), BL k.known, I64 k.w, I64 k.h]
abbrev wtT (k : Wt) : T := .agg (wtC k)
abbrev kF {α : Type} (l : List (Int × α)) : List Value := l.map fun e => Value.int .i64 e.1
abbrev tF (l : List (Int × Fr)) : List T := l.map fun e => frT e.2
abbrev tW (l : List (Int × Wt)) : List T := l.map fun e => wtT e.2
abbrev tnC (m : Mg) (a : T) : List T := [.v (.int .u32 m.base), I64 m.cnt, I64 m.made, I64 m.w, I64 m.h, .om 1, .om 2, BL m.on, I64 m.df, I64 m.dx, I64 m.dy, a]
abbrev askT (b : Nat) (l : List Rq) : T := .slc b 0 l.length 4 none
abbrev cLn (n : List Int) (c : Option Nat) : T := .islc (encL cI n) n.length c
theorem cloneI_p (r : Int) (l : List Int) (c : Option Nat) (hl : l.length ≤ 1000) : CallP Tryd.prog 80 [cLn (r :: l) c] (cIf (r :: l)) := by
  refine CallP.intro2 au_pu au_pu ?_
  refine CallT.intro tab_ok Tryd.func80 rfl (by kernel_rfl) (Nat.le_of_ble_eq_true rfl) ?_
  refine VC.reg tab_ok [] rfl ?_
  refine VX.meek rfl ?_
  refine VX.nil ?_
  refine VC.seq ?_
  refine VC.reg tab_ok [] rfl ?_
  iterate 2 refine VX.meek rfl ?_
  refine VX.nil ?_
  refine VC.condF rfl ?_
  refine VC.skip ?_
  refine VC.reg tab_ok [] rfl ?_
  refine VX.new rfl rfl ?_
  refine VX.meek rfl ?_
  refine VX.append rfl rfl rfl rfl rfl rfl (src_c cI (l := r :: l) rfl rfl rfl rfl) rfl (Nat.le_refl _) (by dsimp only [List.length_cons]; omega) (by simp only [List.length_cons]; omega) (by rw [encL_len]; rfl) (encL_cb cI _) ?_
  refine VX.meek rfl ?_
  refine VX.nil ?_
  refine VC.ret ?_
  refine ⟨trivial, _, rfl, ?_⟩; show Cv _ (.slc _ 0 (0 + (r :: l).length) 1 none) _; rw [Nat.zero_add]; exact Cv.fslc0 ⟨rfl, by simp⟩ (CvL.pure (encL_pure cI _))
theorem text_t (m : Mg) (p q : OP) (b : List UInt8) (code r : Int) (n : List Int) (c : Option Nat) (l : List Rq) (hn : n.length ≤ 100) (hl : l.length ≤ 100) (hc : 0 ≤ m.cnt ∧ m.cnt ≤ 2000000) (hp : p.pi = true) (hq : q.pi = true) :
    CallT Tryd.prog 55 [.ptr 0 0, strT b, I64 code, cLn (r :: n) c] [.c (tnC m (askT 3 l)), .o p, .o q, .c (encL cRn l)]
      (fun t H' => t = .tup [] ∧ H' = [.c (tnC { m with cnt := m.cnt + 1 } (askT 4 (l ++ [⟨code, r :: n, b, []⟩]))), .o p, .o q, .d, .c (encL cRn (l ++ [⟨code, r :: n, b, []⟩]))]) := by
  have hcl := cloneI_p r n c (by omega)
  refine CallT.intro tab_ok Tryd.func55 rfl (by kernel_rfl) (Nat.le_of_ble_eq_true rfl) ?_
  refine VC.drwC tab_ok [18] [_, _, _, _, _, _, _, _, _, _, _, _] ([.c (tnC m (askT 3 l)), .o p, .o q, .d]) [false, false, false, false, false, false, false, false, false, false, false, true] rfl (by kernel_rfl) (by kernel_rfl) (by kernel_rfl) (by repeat' first | exact seen_nil | refine seen_dead ?_ | refine seen_same ?_) ?_
  refine VD.meek rfl ?_
  refine VD.meek rfl ?_
  refine VD.meek rfl ?_
  refine VD.meek rfl ?_
  first | refine VD.meek rfl ?_ | refine VD.loadI rfl rfl au_l ?_
  refine VD.meek rfl ?_
  refine VD.meek rfl ?_
  refine VD.callP rfl rfl (hcl) ?_
  refine VD.meek rfl ?_
  refine VD.meek rfl ?_
  refine VD.newI rfl ?_
  refine' VD.appT rfl rfl rfl rfl rfl rfl rfl rfl ?h1 ?h2 ?h3 ?h4 ?h5 (seen_same (seen_same (seen_same (seen_dead seen_nil)))) ?_
  case h1 => rw [encL_len, cRn_sz]; omega
  case h2 => exact Nat.le_trans (Nat.mul_le_mul_right _ (show l.length + 1 ≤ 1000 by omega)) (by decide)
  case h3 => show l.length + 1 ≤ _; omega
  case h4 => rfl
  case h5 => rfl
  refine VD.nil ?_
  iterate 2 refine VX.meek rfl ?_
  refine VX.store rfl rfl rfl rfl rfl au_s rfl ?_
  refine VX.nil ?_
  refine VC.regN tab_ok [] rfl ?_
  iterate 5 refine VX.meek rfl ?_
  first | refine VX.meek rfl ?_ | refine VX.loadI rfl rfl au_l ?_ | refine VX.loadP rfl rfl rfl au_l ?_
  first | refine VX.add rfl rfl (by omega) ?_ | refine VX.meek rfl ?_
  iterate 4 refine VX.meek rfl ?_
  refine VX.store rfl rfl rfl rfl rfl au_s rfl ?_
  refine VX.nil ?_
  refine ⟨trivial, _, rfl, rfl, ?_⟩; simp only [askT, setH, encL_append, List.length_append, List.length_singleton, List.drop_zero, List.cons_append, List.nil_append]; rw [List.take_of_length_le (by rw [encL_len, cRn_sz]; exact Nat.le_refl _)]; rfl
end
section
open Go.RowKit
set_option maxRecDepth 10000
set_option maxHeartbeats 1000000
section
variable {q : Bool} {P : Program} {tab : Tab} {im : List Nat} {ds : List (Option Nat)} {l : List Oper} {E : Env} {H Hm F : Hp} {K : Env → Hp → Prop} {d : Nat} {ty : TypeId} {pos : String} {after : Array Edge}
theorem VX.remN [Dr] {x y : Operand} {t t2 : Nat} {a c : Int} (hx : E.opd x = some (I64 a)) (hy : E.opd y = some (I64 c)) (ha : 0 ≤ a) (hc : 0 < c) (k : VX q P tab im ds l ((d, I64 (a % c)) :: E) H K) : VX q P tab im ds (⟨some d, .binOp .rem t x y t2, ty, pos, after, none⟩ :: l) E H K := by
  refine VX.meek (t := I64 (a % c)) ?_ k
  have hc' : ¬ c = 0 := by omega
  simp only [opM, hx, hy, mBin, binInt]
  rw [if_neg hc', Int.tmod_eq_emod_of_nonneg ha]
  rfl
end
abbrev tnH (m : Mg) (p q : OP) (l : List Rq) : Hp := [.c (tnC m (askT 3 l)), .o p, .o q, .c (encL cRn l)]
abbrev Mg.up (m : Mg) (k : Int) : Mg := { m with cnt := m.cnt + k }
abbrev tnH1 (m : Mg) (p q : OP) (l : List Rq) : Hp := [.c (tnC m (askT 4 l)), .o p, .o q, .d, .c (encL cRn l)]
theorem ask_t (m : Mg) (p q : OP) (code r : Int) (n : List Int) (c : Option Nat) (l : List Rq) (hn : n.length ≤ 100) (hl : l.length ≤ 100) (hc : 0 ≤ m.cnt ∧ m.cnt ≤ 2000000) (hp : p.pi = true) (hq : q.pi = true) :
    CallT Tryd.prog 54 [.ptr 0 0, I64 code, cLn (r :: n) c] (tnH m p q l)
      (fun t H' => t = .tup [] ∧ H' = tnH1 (m.up 1) p q (l ++ [rq code (r :: n)])) := by
  have ht := text_t m p q [] code r n c l hn hl hc hp hq
  refine CallT.intro tab_ok Tryd.func54 rfl (by kernel_rfl) (Nat.le_of_ble_eq_true rfl) ?_
  refine VC.regN tab_ok [] rfl ?_
  iterate 3 refine VX.meek rfl ?_
  refine VX.callT rfl rfl (CallT.frame (ht) [0, 1, 2, 3] rfl au_ci au_ci ?_)
  rintro _ _ ⟨rfl, rfl⟩
  refine frK au_co au_co ?_
  refine VX.nil ?_
  exact ⟨trivial, _, rfl, rfl, rfl⟩
theorem ask1_t (m : Mg) (p q : OP) (code : Int) (a : Int) (l : List Rq) (hl : l.length ≤ 100) (hc : 0 ≤ m.cnt ∧ m.cnt ≤ 2000000) (hp : p.pi = true) (hq : q.pi = true) :
    CallT Tryd.prog 54 [.ptr 0 0, I64 code, .islc [I64 a] 1 (some 1)] (tnH m p q l)
      (fun t H' => t = .tup [] ∧ H' = tnH1 (m.up 1) p q (l ++ [rq code [a]])) := ask_t m p q code a [] (some 1) l (by simp) hl hc hp hq
theorem ask2_t (m : Mg) (p q : OP) (code : Int) (a b : Int) (l : List Rq) (hl : l.length ≤ 100) (hc : 0 ≤ m.cnt ∧ m.cnt ≤ 2000000) (hp : p.pi = true) (hq : q.pi = true) :
    CallT Tryd.prog 54 [.ptr 0 0, I64 code, .islc [I64 a, I64 b] 2 (some 2)] (tnH m p q l)
      (fun t H' => t = .tup [] ∧ H' = tnH1 (m.up 1) p q (l ++ [rq code [a, b]])) := ask_t m p q code a [b] (some 2) l (by simp) hl hc hp hq
theorem ask4_t (m : Mg) (p q : OP) (code : Int) (a b c d : Int) (l : List Rq) (hl : l.length ≤ 100) (hc : 0 ≤ m.cnt ∧ m.cnt ≤ 2000000) (hp : p.pi = true) (hq : q.pi = true) :
    CallT Tryd.prog 54 [.ptr 0 0, I64 code, .islc [I64 a, I64 b, I64 c, I64 d] 4 (some 4)] (tnH m p q l)
      (fun t H' => t = .tup [] ∧ H' = tnH1 (m.up 1) p q (l ++ [rq code [a, b, c, d]])) := ask_t m p q code a [b, c, d] (some 4) l (by simp) hl hc hp hq
theorem ask6_t (m : Mg) (p q : OP) (code : Int) (a b c d e f : Int) (l : List Rq) (hl : l.length ≤ 100) (hc : 0 ≤ m.cnt ∧ m.cnt ≤ 2000000) (hp : p.pi = true) (hq : q.pi = true) :
    CallT Tryd.prog 54 [.ptr 0 0, I64 code, .islc [I64 a, I64 b, I64 c, I64 d, I64 e, I64 f] 6 (some 6)] (tnH m p q l)
      (fun t H' => t = .tup [] ∧ H' = tnH1 (m.up 1) p q (l ++ [rq code [a, b, c, d, e, f]])) := ask_t m p q code a [b, c, d, e, f] (some 6) l (by simp) hl hc hp hq
theorem ask8_t (m : Mg) (p q : OP) (code : Int) (a b c d e f g h : Int) (l : List Rq) (hl : l.length ≤ 100) (hc : 0 ≤ m.cnt ∧ m.cnt ≤ 2000000) (hp : p.pi = true) (hq : q.pi = true) :
    CallT Tryd.prog 54 [.ptr 0 0, I64 code, .islc [I64 a, I64 b, I64 c, I64 d, I64 e, I64 f, I64 g, I64 h] 8 (some 8)] (tnH m p q l)
      (fun t H' => t = .tup [] ∧ H' = tnH1 (m.up 1) p q (l ++ [rq code [a, b, c, d, e, f, g, h]])) := ask_t m p q code a [b, c, d, e, f, g, h] (some 8) l (by simp) hl hc hp hq
theorem ask9_t (m : Mg) (p q : OP) (code : Int) (a b c d e f g h i : Int) (l : List Rq) (hl : l.length ≤ 100) (hc : 0 ≤ m.cnt ∧ m.cnt ≤ 2000000) (hp : p.pi = true) (hq : q.pi = true) :
    CallT Tryd.prog 54 [.ptr 0 0, I64 code, .islc [I64 a, I64 b, I64 c, I64 d, I64 e, I64 f, I64 g, I64 h, I64 i] 9 (some 9)] (tnH m p q l)
      (fun t H' => t = .tup [] ∧ H' = tnH1 (m.up 1) p q (l ++ [rq code [a, b, c, d, e, f, g, h, i]])) := ask_t m p q code a [b, c, d, e, f, g, h, i] (some 9) l (by simp) hl hc hp hq
abbrev idsT (m : Mg) : T := .agg [.v (.int .u32 m.base), I64 m.cnt, I64 m.made]
theorem u32_in {a : Int} (h : 0 ≤ a ∧ a < 4294967296) : IntKind.u32.wrap a = a := by
  show (a % 4294967296) = a
  omega
theorem pen_p (m : Mg) (hb : 1048576 ≤ m.base ∧ m.base ≤ 8388608) : CallP Tryd.prog 57 [idsT m] (I64 (m.base + 1)) := by
  refine CallP.intro2 au_pu au_pu ?_
  refine CallT.intro tab_ok Tryd.func57 rfl (by kernel_rfl) (Nat.le_of_ble_eq_true rfl) ?_
  refine VC.reg tab_ok [1] rfl ?_
  refine VX.newI rfl rfl ?_
  refine VX.meek rfl ?_
  refine VX.nil ?_
  refine VC.reg tab_ok [] rfl ?_
  refine VX.meek rfl ?_
  first | refine VX.meek rfl ?_ | refine VX.loadI rfl rfl au_l ?_ | refine VX.loadP rfl rfl rfl au_l ?_
  refine VX.meek (t := .v (.int .u32 (m.base + 1))) (by show some (T.v (.int .u32 (IntKind.u32.wrap (m.base + 1))), (none : Option (Nat × List T))) = _; rw [u32_in (by omega)]) ?_
  refine VX.meek (t := I64 (m.base + 1)) (by show some (T.v (.int .i64 (IntKind.i64.wrap (m.base + 1))), (none : Option (Nat × List T))) = _; rw [wrap_in (by omega)]) ?_
  refine VX.meek rfl ?_
  refine VX.nil ?_
  refine VC.ret ?_
  exact ⟨trivial, _, rfl, Cv.eq (by first | rfl | (simp [*]; done)) rfl⟩
theorem font_p (m : Mg) (hb : 1048576 ≤ m.base ∧ m.base ≤ 8388608) : CallP Tryd.prog 56 [idsT m] (I64 (m.base + 2)) := by
  refine CallP.intro2 au_pu au_pu ?_
  refine CallT.intro tab_ok Tryd.func56 rfl (by kernel_rfl) (Nat.le_of_ble_eq_true rfl) ?_
  refine VC.reg tab_ok [1] rfl ?_
  refine VX.newI rfl rfl ?_
  refine VX.meek rfl ?_
  refine VX.nil ?_
  refine VC.reg tab_ok [] rfl ?_
  refine VX.meek rfl ?_
  first | refine VX.meek rfl ?_ | refine VX.loadI rfl rfl au_l ?_ | refine VX.loadP rfl rfl rfl au_l ?_
  refine VX.meek (t := .v (.int .u32 (m.base + 2))) (by show some (T.v (.int .u32 (IntKind.u32.wrap (m.base + 2))), (none : Option (Nat × List T))) = _; rw [u32_in (by omega)]) ?_
  refine VX.meek (t := I64 (m.base + 2)) (by show some (T.v (.int .i64 (IntKind.i64.wrap (m.base + 2))), (none : Option (Nat × List T))) = _; rw [wrap_in (by omega)]) ?_
  refine VX.meek rfl ?_
  refine VX.nil ?_
  refine VC.ret ?_
  exact ⟨trivial, _, rfl, Cv.eq (by first | rfl | (simp [*]; done)) rfl⟩
theorem frame_p (m : Mg) (hb : 1048576 ≤ m.base ∧ m.base ≤ 8388608) (hm : 0 ≤ m.made ∧ m.made ≤ 2000000) : CallP Tryd.prog 122 [idsT m] (I64 (m.base + 10 + m.made)) := by
  refine CallP.intro2 au_pu au_pu ?_
  refine CallT.intro tab_ok Tryd.func122 rfl (by kernel_rfl) (Nat.le_of_ble_eq_true rfl) ?_
  refine VC.reg tab_ok [1] rfl ?_
  refine VX.newI rfl rfl ?_
  refine VX.meek rfl ?_
  refine VX.nil ?_
  refine VC.reg tab_ok [] rfl ?_
  refine VX.meek rfl ?_
  first | refine VX.meek rfl ?_ | refine VX.loadI rfl rfl au_l ?_ | refine VX.loadP rfl rfl rfl au_l ?_
  refine VX.meek (t := I64 m.base) (by show some (T.v (.int .i64 (IntKind.i64.wrap m.base)), (none : Option (Nat × List T))) = _; rw [wrap_in (by omega)]) ?_
  first | refine VX.add rfl rfl (by omega) ?_ | refine VX.meek rfl ?_
  refine VX.meek rfl ?_
  first | refine VX.meek rfl ?_ | refine VX.loadI rfl rfl au_l ?_ | refine VX.loadP rfl rfl rfl au_l ?_
  first | refine VX.add rfl rfl (by omega) ?_ | refine VX.meek rfl ?_
  refine VX.meek rfl ?_
  refine VX.nil ?_
  refine VC.ret ?_
  exact ⟨trivial, _, rfl, Cv.eq (by first | rfl | (simp [*]; done)) rfl⟩
theorem far_p (step all taken : Int) (h1 : 0 ≤ step ∧ step ≤ 100000000) (h2 : -4294967296 ≤ all ∧ all ≤ 4294967296) (h3 : -4294967296 ≤ taken ∧ taken ≤ 4294967296) : CallP Tryd.prog 52 [I64 step, I64 all, I64 taken] (I64 (farI step all taken)) := by
  unfold farI
  refine CallP.intro2 au_pu au_pu ?_
  refine CallT.intro tab_ok Tryd.func52 rfl (by kernel_rfl) (Nat.le_of_ble_eq_true rfl) ?_
  refine VC.reg tab_ok [] rfl ?_
  refine VX.meek rfl ?_
  refine VX.nil ?_
  refine VC.reg tab_ok [] rfl ?_
  iterate 2 refine VX.meek rfl ?_
  first | refine VX.sub rfl rfl (by omega) ?_ | refine VX.meek rfl ?_
  refine VX.meek rfl ?_
  refine VX.nil ?_
  refine VC.seq ?_
  refine VC.block ?_
  refine VC.reg tab_ok [] rfl ?_
  iterate 4 refine VX.meek rfl ?_
  refine VX.nil ?_
  refine VC.cond rfl (fun hc0 => ?_) (fun hc0 => ?_)
  · (try simp only [au_std] at hc0); rw [if_pos (by omega)]
    refine VC.reg tab_ok [] rfl ?_
    refine VX.meek rfl ?_
    refine VX.nil ?_
    refine VC.ret ?_
    exact ⟨trivial, _, rfl, Cv.eq (by first | rfl | (simp [*]; done)) rfl⟩
  · (try simp only [au_std] at hc0); rw [if_neg (by omega)]
    refine VC.reg tab_ok [] rfl ?_
    iterate 3 refine VX.meek rfl ?_
    refine' VX.merge (d := 21) [_, _, _] rfl ?_ rfl ?_
    rotate_left
    · refine VX.guard rfl rfl (fun hb4_2 => ?_) (fun hb4_2 => ?_)
      · have ghb4_2 := hb4_2
        try simp only [au_std, Bool.not_true, Bool.not_false] at ghb4_2
        refine VX.meek rfl ?_
        refine VX.guardT rfl rfl hb4_2 ?_
        refine VX.meek rfl ?_
        refine VX.pickO rfl (fun _ => rfl) ?_
        exact VX.nil ⟨rfl, rfl⟩
      · refine VX.guardF rfl rfl hb4_2 ?_
        exact VX.pickO rfl (fun h => absurd (h.symm.trans hb4_2) (by decide)) (VX.nil ⟨rfl, rfl⟩)
    refine VX.meek rfl ?_
    refine VX.nil ?_
    refine VC.cond rfl (fun hc1 => ?_) (fun hc1 => ?_)
    · (try simp only [au_std] at hc1); rw [if_pos (by omega)]
      refine VC.reg tab_ok [] rfl ?_
      iterate 2 refine VX.meek rfl ?_
      refine VX.nil ?_
      refine VC.ret ?_
      exact ⟨trivial, _, rfl, Cv.eq (by first | rfl | (simp [*]; done)) rfl⟩
    · (try simp only [au_std] at hc1); rw [if_neg (by omega)]
      refine VC.skip ?_
      refine VC.reg tab_ok [] rfl ?_
      iterate 2 refine VX.meek rfl ?_
      first | refine VX.add rfl rfl (by omega) ?_ | refine VX.meek rfl ?_
      refine VX.remN rfl rfl (by omega) (by omega) ?_
      refine VX.meek rfl ?_
      refine VX.nil ?_
      refine VC.ret ?_
      exact ⟨trivial, _, rfl, Cv.eq (by first | rfl | (simp [*]; done)) rfl⟩
theorem spot_p (n w h X Y W H : Int) (h1 : r32 w) (h2 : r32 h) (h3 : r32 X) (h4 : r32 Y) (h5 : r32 W) (h6 : r32 H) : CallP Tryd.prog 27 [I64 n, I64 w, I64 h, .agg [I64 X, I64 Y, I64 W, I64 H]] (.agg [I64 (spotX n w X W), I64 (spotY n h Y H)]) := by
  unfold r32 at *
  have hm : 0 ≤ min (max n 0) 1048576 ∧ min (max n 0) 1048576 ≤ 1048576 := by omega
  have ha := far_p (12 * min (max n 0) 1048576) W w (by omega) (by omega) (by omega)
  have hb := far_p (10 * min (max n 0) 1048576) H h (by omega) (by omega) (by omega)
  have hf : ∀ s a b : Int, 0 ≤ s ∧ s ≤ 100000000 → -4294967296 ≤ a ∧ a ≤ 4294967296 → -4294967296 ≤ b ∧ b ≤ 4294967296 → 0 ≤ farI s a b ∧ farI s a b ≤ 100000000 := fun s a b k1 k2 k3 => by
    unfold farI
    split
    · omega
    · split
      · omega
      · have := Int.emod_nonneg s (b := a - b + 1) (by omega)
        have := Int.emod_lt_of_pos s (b := a - b + 1) (by omega)
        omega
  have hfa := hf (12 * min (max n 0) 1048576) W w (by omega) (by omega) (by omega)
  have hfb := hf (10 * min (max n 0) 1048576) H h (by omega) (by omega) (by omega)
  unfold spotX spotY
  generalize farI (12 * min (max n 0) 1048576) W w = A at *
  generalize farI (10 * min (max n 0) 1048576) H h = B at *
  refine CallP.intro2 au_pu au_pu ?_
  refine CallT.intro tab_ok Tryd.func27 rfl (by kernel_rfl) (Nat.le_of_ble_eq_true rfl) ?_
  refine VC.reg tab_ok [7] rfl ?_
  refine VX.newI rfl rfl ?_
  refine VX.new rfl rfl ?_
  refine VX.nil ?_
  refine VC.reg tab_ok [] rfl ?_
  refine VX.meek rfl ?_
  first | refine VX.maxX rfl rfl ?_ | refine VX.meek rfl ?_
  first | refine VX.minX rfl rfl ?_ | refine VX.meek rfl ?_
  refine VX.meek rfl ?_
  refine VX.nil ?_
  refine VC.drw tab_ok [] [_, _, _, _, _, _, _, _, _, _, _, _, _, _, _, _, _, _, _] rfl (by kernel_rfl) (by kernel_rfl) ?_
  refine VX.meek rfl ?_
  first | refine VX.meek rfl ?_ | refine VX.loadI rfl rfl au_l ?_ | refine VX.loadP rfl rfl rfl au_l ?_
  refine VX.meek rfl ?_
  first | refine VX.mul rfl rfl (by omega) ?_ | refine VX.meek rfl ?_
  refine VX.meek rfl ?_
  first | refine VX.meek rfl ?_ | refine VX.loadI rfl rfl au_l ?_ | refine VX.loadP rfl rfl rfl au_l ?_
  refine VX.meek rfl ?_
  refine VX.callP0 rfl rfl rfl (ha) ?_
  first | refine VX.add rfl rfl (by omega) ?_ | refine VX.meek rfl ?_
  refine VX.meek rfl ?_
  first | refine VX.meek rfl ?_ | refine VX.loadI rfl rfl au_l ?_ | refine VX.loadP rfl rfl rfl au_l ?_
  refine VX.meek rfl ?_
  first | refine VX.mul rfl rfl (by omega) ?_ | refine VX.meek rfl ?_
  refine VX.meek rfl ?_
  first | refine VX.meek rfl ?_ | refine VX.loadI rfl rfl au_l ?_ | refine VX.loadP rfl rfl rfl au_l ?_
  refine VX.meek rfl ?_
  refine VX.callP0 rfl rfl rfl (hb) ?_
  first | refine VX.add rfl rfl (by omega) ?_ | refine VX.meek rfl ?_
  refine VX.meek rfl ?_
  refine VX.nil ?_
  refine VX.store rfl rfl rfl rfl rfl au_s rfl ?_
  refine VX.nil ?_
  refine VC.ret ?_
  exact ⟨trivial, _, rfl, Cv.eq (by first | rfl | (simp [*]; done)) rfl⟩
theorem titleB_enc (v : Int) : (v < 32 ∨ v > 126 → ((titleB v).toNat : Int) = 63) ∧ (¬ (v < 32 ∨ v > 126) → ((titleB v).toNat : Int) = v) := by
  unfold titleB
  refine ⟨fun h => by rw [if_pos h]; rfl, fun h => ?_⟩
  rw [if_neg h, UInt8.toNat_ofNat_of_lt' (by show v.toNat < 256; omega)]
  omega
end
section
open Go.RowKit
set_option maxRecDepth 10000
set_option maxHeartbeats 1000000
theorem take_snoc2 {α β : Type} [Inhabited α] {l : List α} {i : Nat} (h : i < l.length) (f : α → β) : (l.take (i + 1)).map f = (l.take i).map f ++ [f l[i]!] := by
  rw [List.take_add_one, List.map_append, List.getElem?_eq_getElem h, getElem!_pos l i h]; rfl
theorem u8_wrap {v : Int} (h : 0 ≤ v ∧ v < 256) : IntKind.u8.wrap v = v := by
  show v % 256 = v
  omega
theorem title_p (row : List Int) (hl : row.length ≤ 100000) : CallP Tryd.prog 123 [cIf row] (strT (titleL row)) := by
  have hres : ∀ N : Nat, N = min row.length 32 → titleL row = (row.take N).map titleB := fun N hN => by
    unfold titleL
    rw [hN]
    congr 1
    rcases Nat.le_total row.length 32 with h | h
    · rw [Nat.min_eq_left h, List.take_of_length_le h, List.take_of_length_le (Nat.le_refl _)]
    · rw [Nat.min_eq_right h]
  obtain ⟨N, hN⟩ : ∃ N, N = min row.length 32 := ⟨_, rfl⟩
  have hNi : min (row.length : Int) 32 = (N : Int) := by omega
  rw [hres N hN]
  refine CallP.intro2 au_pu au_pu ?_
  refine CallT.intro tab_ok Tryd.func123 rfl (by kernel_rfl) (Nat.le_of_ble_eq_true rfl) ?_
  refine VC.reg tab_ok [] rfl ?_
  refine VX.meek rfl ?_
  refine VX.nil ?_
  refine VC.reg tab_ok [] rfl ?_
  refine VX.meek rfl ?_
  refine VX.nil ?_
  refine VC.seq ?_
  refine VC.reg tab_ok [] rfl ?_
  iterate 3 refine VX.meek rfl ?_
  refine VX.minX rfl rfl ?_; rw [hNi]
  first | refine VX.slcO0 rfl rfl rfl rfl rfl rfl (by first | rfl | exact (Int.toNat_of_nonneg (by omega)).symm) (by omega) ?_ | refine VX.slcI0 rfl rfl rfl rfl rfl (by first | rfl | exact (Int.toNat_of_nonneg (by omega)).symm) (by omega) ?_ | refine VX.meek rfl ?_
  iterate 2 refine VX.meek rfl ?_
  refine VX.nil ?_
  refine VC.block ?_
  refine VC.loopS (σ := Nat) (fun i => N - i) (fun i => i ≤ N) (fun i => [(12, I64 i), (3, .slc 0 0 i 1 none)]) (fun i => [.c (encL cY ((row.take i).map titleB))]) [10, 11] rfl (0) ?_ ?_ ?_
  · refine ⟨[none], rfl, by first | trivial | decide, by first | rfl | (simp only [noO, Bool.and_true, Bool.and_eq_true]; first | assumption | (refine ⟨?_, ?_⟩ <;> assumption)) | (simp only [noO, *, Bool.and_true, Bool.true_and, Bool.and_self]; done), ?_, ?_⟩ <;> (repeat' first | exact trivial | exact CvB_n | exact CvB_d | exact CvB_o rfl | refine CvE_app ?_ ?_ | refine CvE_cons rfl ?_ ?_ | refine CvH_cons ?_ ?_ | refine CvB_c rfl ?_ | fail) <;> first | exact au_v | (skip)
  · (try dsimp only); omega
  rintro i hi
  refine VC.reg tab_ok [] rfl ?_
  refine VX.meek rfl ?_
  refine VX.nil ?_
  refine VC.seq ?_
  refine VC.cond rfl (fun hc0 => ?_) (fun hc0 => ?_)
  · (try simp only [au_std] at hc0); have hil : i < N := (by omega); have hrl : i < row.length := (by omega); have htl : ((row.take i).map titleB).length = i := (by rw [List.length_map, List.length_take]; omega)
    have hsn := take_snoc2 hrl titleB; have hen := titleB_enc row[i]!
    refine VC.skip ?_
    refine VC.seq ?_
    refine VC.block ?_
    refine VC.reg tab_ok [] rfl ?_
    first | refine VX.idxI rfl rfl rfl rfl rfl rfl (by omega) ?_ | refine VX.idxO0 rfl rfl rfl rfl rfl rfl rfl (by omega) ?_ | refine VX.idxO0 rfl rfl rfl rfl rfl rfl au_z (by omega) ?_ | refine VX.idxO rfl rfl rfl rfl rfl rfl rfl (by omega) ?_ | refine VX.idxI rfl rfl rfl rfl rfl au_z (by omega) ?_ | refine VX.idxO rfl rfl rfl rfl rfl rfl au_z (by omega) ?_ | refine VX.meek rfl ?_
    first | refine VX.meek rfl ?_ | refine VX.loadI rfl rfl au_l ?_ | refine VX.loadP rfl rfl rfl au_l ?_
    refine VX.meek rfl ?_
    refine VX.nil ?_
    refine VC.seq ?_
    refine VC.reg tab_ok [] rfl ?_
    iterate 3 refine VX.meek rfl ?_
    refine' VX.merge (d := 21) [_, _, _] rfl ?_ rfl ?_
    rotate_left
    · refine VX.guard rfl rfl (fun hb5_2 => ?_) (fun hb5_2 => ?_)
      · have ghb5_2 := hb5_2
        try simp only [au_std, Bool.not_true, Bool.not_false] at ghb5_2
        refine VX.meek rfl ?_
        refine VX.guardT rfl rfl hb5_2 ?_
        refine VX.meek rfl ?_
        refine VX.pickO rfl (fun _ => rfl) ?_
        exact VX.nil ⟨rfl, rfl⟩
      · refine VX.guardF rfl rfl hb5_2 ?_
        exact VX.pickO rfl (fun h => absurd (h.symm.trans hb5_2) (by decide)) (VX.nil ⟨rfl, rfl⟩)
    refine VX.nil ?_
    refine VC.cond rfl (fun hc1 => ?_) (fun hc1 => ?_)
    · (try simp only [au_std] at hc1); have hu := hen.1 (by simpa using hc1)
      refine VC.regN tab_ok [] rfl ?_
      refine VX.meek rfl ?_
      refine VX.nil ?_
      refine VC.regN tab_ok [25] rfl ?_
      iterate 2 refine VX.meek rfl ?_
      refine VX.meek (t := U8 ((titleB row[i]!).toNat : Int)) (by rw [hu]; first | rfl | (show some (T.v (.int .u8 (IntKind.u8.wrap row[i]!)), (none : Option (Nat × List T))) = _; rw [u8_wrap (by omega)])) ?_
      refine VX.newI rfl rfl ?_
      refine VX.append rfl rfl rfl rfl rfl rfl rfl rfl (by rw [encL_len, htl, cY_sz]; omega) (by show (i + 1) * 1 ≤ _; omega) (by omega) rfl rfl ?_
      refine VX.meek rfl ?_
      refine VX.nil ?_
      refine VC.regN tab_ok [] rfl ?_
      first | refine VX.add rfl rfl (by omega) ?_ | refine VX.meek rfl ?_
      refine VX.meek rfl ?_
      refine VX.nil ?_
      refine ⟨i + 1, by (try dsimp only); omega, ?_, (by refine ⟨[some 1], rfl, by first | trivial | decide, by first | rfl | (simp only [noO, Bool.and_true, Bool.and_eq_true]; first | assumption | (refine ⟨?_, ?_⟩ <;> assumption)) | (simp only [noO, *, Bool.and_true, Bool.true_and, Bool.and_self]; done), ?_, ?_⟩ <;> (repeat' first | exact trivial | exact CvB_n | exact CvB_d | exact CvB_o rfl | refine CvE_app ?_ ?_ | refine CvE_cons rfl ?_ ?_ | refine CvH_cons ?_ ?_ | refine CvB_c rfl ?_ | fail) <;> first | exact au_v | (first | exact Cv.slc rfl (.inr rfl) | exact CvL.eq (by rw [hsn, encL_append, List.drop_zero, List.take_of_length_le (by rw [encL_len, htl, cY_sz]; exact Nat.le_refl _)]; rfl) (encL_pure _ _)))⟩
      (try dsimp only); omega
    · (try simp only [au_std] at hc1); have hu := hen.2 (by simpa using hc1)
      refine VC.skip ?_
      refine VC.regN tab_ok [25] rfl ?_
      iterate 2 refine VX.meek rfl ?_
      refine VX.meek (t := U8 ((titleB row[i]!).toNat : Int)) (by rw [hu]; first | rfl | (show some (T.v (.int .u8 (IntKind.u8.wrap row[i]!)), (none : Option (Nat × List T))) = _; rw [u8_wrap (by omega)])) ?_
      refine VX.newI rfl rfl ?_
      refine VX.append rfl rfl rfl rfl rfl rfl rfl rfl (by rw [encL_len, htl, cY_sz]; omega) (by show (i + 1) * 1 ≤ _; omega) (by omega) rfl rfl ?_
      refine VX.meek rfl ?_
      refine VX.nil ?_
      refine VC.regN tab_ok [] rfl ?_
      first | refine VX.add rfl rfl (by omega) ?_ | refine VX.meek rfl ?_
      refine VX.meek rfl ?_
      refine VX.nil ?_
      refine ⟨i + 1, by (try dsimp only); omega, ?_, (by refine ⟨[some 1], rfl, by first | trivial | decide, by first | rfl | (simp only [noO, Bool.and_true, Bool.and_eq_true]; first | assumption | (refine ⟨?_, ?_⟩ <;> assumption)) | (simp only [noO, *, Bool.and_true, Bool.true_and, Bool.and_self]; done), ?_, ?_⟩ <;> (repeat' first | exact trivial | exact CvB_n | exact CvB_d | exact CvB_o rfl | refine CvE_app ?_ ?_ | refine CvE_cons rfl ?_ ?_ | refine CvH_cons ?_ ?_ | refine CvB_c rfl ?_ | fail) <;> first | exact au_v | (first | exact Cv.slc rfl (.inr rfl) | exact CvL.eq (by rw [hsn, encL_append, List.drop_zero, List.take_of_length_le (by rw [encL_len, htl, cY_sz]; exact Nat.le_refl _)]; rfl) (encL_pure _ _)))⟩
      (try dsimp only); omega
  · (try simp only [au_std] at hc0); obtain rfl : i = N := (by omega); have htl : ((row.take i).map titleB).length = i := (by rw [List.length_map, List.length_take]; omega)
    refine VC.exit ?_
    refine VC.reg tab_ok [] rfl ?_
    refine VX.meek rfl ?_
    refine VX.strY rfl rfl rfl rfl rfl rfl rfl rfl (by rw [encL_len, htl, cY_sz]; omega) (by rw [List.drop_zero, List.take_of_length_le (by rw [encL_len, htl, cY_sz]; omega)]) ?_
    refine VX.meek rfl ?_
    refine VX.nil ?_
    refine VC.ret ?_
    exact ⟨trivial, _, rfl, Cv.eq (by first | rfl | (simp [*]; done)) rfl⟩
abbrev tzC (m : Mg) (a : T) : List T := [.v (.int .u32 m.base), I64 m.cnt, I64 m.made, I64 m.w, I64 m.h, .mp (kF m.F) (tF m.F), .mp (kF m.W) (tW m.W), BL m.on, I64 m.df, I64 m.dx, I64 m.dy, a]
theorem pF (l : List (Int × Fr)) : T.pureL (tF l) = true := pureL_of_mem fun t ht => by obtain ⟨e, -, rfl⟩ := List.mem_map.1 ht; rfl
theorem pW (l : List (Int × Wt)) : T.pureL (tW l) = true := pureL_of_mem fun t ht => by obtain ⟨e, -, rfl⟩ := List.mem_map.1 ht; rfl
theorem piF (l : List (Int × Fr)) : (mapP (kF l) (tF l)).pi = true := pF l
theorem piW (l : List (Int × Wt)) : (mapP (kF l) (tW l)).pi = true := pW l
theorem tz_pure (m : Mg) (a : T) (ha : a.pure = true) : T.pureL (tzC m a) = true := by
  have h1 := pF m.F
  have h2 := pW m.W
  show (true && (true && (true && (true && (true && (T.pureL (tF m.F) && (T.pureL (tW m.W) && (true && (true && (true && (true && (a.pure && true)))))))))))) = true
  rw [h1, h2, ha]; rfl
theorem kF_at {α : Type} {l : List (Int × α)} {i : Nat} {k : Value} (h : (kF l)[i]? = some k) : ∃ e, l[i]? = some e ∧ k = .int .i64 e.1 := by
  rw [List.getElem?_map] at h
  cases he : l[i]? with
  | none => rw [he] at h; cases h
  | some e => rw [he] at h; exact ⟨e, rfl, by injection h with h; exact h.symm⟩
theorem tW_at {l : List (Int × Wt)} {i : Nat} {e : Int × Wt} {t : T} (h : l[i]? = some e) (k : (tW l)[i]? = some t) : t = wtT e.2 := by rw [List.getElem?_map, h] at k; injection k with k; exact k.symm
theorem tF_at {l : List (Int × Fr)} {i : Nat} {e : Int × Fr} {t : T} (h : l[i]? = some e) (k : (tF l)[i]? = some t) : t = frT e.2 := by rw [List.getElem?_map, h] at k; injection k with k; exact k.symm
theorem mem_erase {α : Type} : ∀ {l : List α} {i : Nat} {a x : α}, l[i]? = some a → x ∈ l → x ≠ a → x ∈ l.eraseIdx i
  | [], _, _, _, h, _, _ => by simp at h
  | y :: l, 0, a, x, h, hx, hn => by
    simp at h; subst h
    rcases List.mem_cons.1 hx with rfl | hx
    · exact absurd rfl hn
    · simpa using hx
  | y :: l, i + 1, a, x, h, hx, hn => by
    simp at h
    rw [List.eraseIdx_cons_succ]
    rcases List.mem_cons.1 hx with rfl | hx
    · exact List.mem_cons_self
    · exact List.mem_cons_of_mem _ (mem_erase h hx hn)
def foundW (m : Mg) (is : Wt → Bool) : T := match posB m.W is with | some i => .tup [I64 (m.W[i]!).1, BL true] | none => .tup [I64 0, BL false]
theorem waiting_p (m : Mg) (a : T) (f : FuncId) (cs : List T) (is : Wt → Bool) (ha : a.pure = true) (hcs : T.pureL cs = true) (hu : ∀ (i j : Nat) (x y : Int × Wt), m.W[i]? = some x → m.W[j]? = some y → is x.2 = true → is y.2 = true → i = j)
    (hcl : ∀ k, CallP Tryd.prog f ([] ++ [wtT k] ++ cs) (BL (is k))) :
    CallP Tryd.prog 81 [.iptr (tzC m a) 0, .clo f [] cs] (foundW m is) := by
  have htz := tz_pure m a ha
  have hF := pF m.F
  have hW := pW m.W
  have hfp : (foundW m is).pure = true := by unfold foundW; split <;> rfl
  have hpi0 : (iterP none (kF m.W) (tW m.W)).pi = true := by show (T.pureL (tW m.W) && true) = true; rw [pW]; rfl
  refine CallP.intro2 au_pu au_pu ?_
  refine CallT.intro tab_ok Tryd.func81 rfl (by kernel_rfl) (Nat.le_of_ble_eq_true rfl) ?_
  refine VC.reg tab_ok [] rfl ?_
  iterate 2 refine VX.meek rfl ?_
  refine VX.nil ?_
  refine VC.seq ?_
  refine VC.reg tab_ok [] rfl ?_
  iterate 4 refine VX.meek rfl ?_
  first | refine VX.meek rfl ?_ | refine VX.loadI rfl rfl au_l ?_ | refine VX.loadP rfl rfl rfl au_l ?_
  refine VX.range tab_ok rfl rfl rfl (.inl rfl) ?_
  refine VX.nil ?_
  refine VC.block ?_
  refine VC.loopS2 (σ1 := List (Int × Wt)) (σ2 := Option (Value × T)) (fun R _ => R.length) (fun R c => (∀ e ∈ R, e ∈ m.W) ∧ (∀ e ∈ m.W, is e.2 = true → e ∈ R) ∧ (iterP c (kF R) (tW R)).pi = true) (fun _ _ => [(13, .ptr 0 0)]) (fun R c => [.o (iterP c (kF R) (tW R))]) [1] rfl (m.W) (none) ?_ ?_ ?_
  · refine ⟨[some 0], rfl, by first | trivial | decide, by first | rfl | (simp only [noO, Bool.and_true, Bool.and_eq_true]; first | assumption | (refine ⟨?_, ?_⟩ <;> assumption)) | (simp only [noO, *, Bool.and_true, Bool.true_and, Bool.and_self]; done), ?_, ?_⟩ <;> (repeat' first | exact trivial | exact CvB_n | exact CvB_d | exact CvB_o rfl | refine CvE_app ?_ ?_ | refine CvE_cons rfl ?_ ?_ | refine CvH_cons ?_ ?_ | refine CvB_c rfl ?_ | fail) <;> first | exact au_v | (skip)
  · exact ⟨fun e h => h, fun e h _ => h, hpi0⟩
  rintro R c ⟨hR1, hR2, hpi⟩
  refine VC.reg tab_ok [] rfl ?_
  refine VX.next rfl rfl (fun hz2 => ?_) (fun i2 k2 t2 hk2 ht2 => ?_)
  · have hRn : R = [] := (by simpa using hz2)
    refine VX.meek rfl ?_
    refine VX.nil ?_
    refine VC.seq ?_
    refine VC.condF rfl ?_
    refine VC.exit ?_
    refine VC.reg tab_ok [] rfl ?_
    iterate 2 refine VX.meek rfl ?_
    refine VX.nil ?_
    refine VC.ret ?_
    subst hRn; exact ⟨trivial, _, rfl, Cv.eq (by have hn : posB m.W is = none := (List.findIdx?_eq_none_iff.2 fun x hx => (by cases hi : is x.2 with | false => rfl | true => exact absurd (hR2 x hx hi) (by simp))); unfold foundW; rw [hn]; rfl) hfp⟩
  · obtain ⟨e, he, rfl⟩ := kF_at hk2; obtain rfl := tW_at he ht2; rw [show (kF R).eraseIdx i2 = kF (R.eraseIdx i2) from (erase_map _ _ _).symm, show (tW R).eraseIdx i2 = tW (R.eraseIdx i2) from (erase_map _ _ _).symm]
    have hlen : (R.eraseIdx i2).length < R.length := (by have := (List.getElem?_eq_some_iff.1 he).1; rw [List.length_eraseIdx_of_lt this]; omega)
    have hpi1 : (iterP (some (Value.int .i64 e.1, wtT e.2)) (kF (R.eraseIdx i2)) (tW (R.eraseIdx i2))).pi = true := (by show (T.pureL (tW _) && true) = true; rw [pW]; rfl)
    refine VX.meek rfl ?_
    refine VX.nil ?_
    refine VC.seq ?_
    refine VC.condT rfl ?_
    refine VC.skip ?_
    refine VC.block ?_
    refine VC.reg tab_ok [] rfl ?_
    refine VX.entry rfl rfl ?_
    iterate 2 refine VX.meek rfl ?_
    refine VX.new rfl rfl ?_
    refine VX.meek rfl ?_
    refine VX.store rfl rfl rfl rfl rfl au_sY rfl ?_
    refine VX.nil ?_
    refine VC.reg tab_ok [] rfl ?_
    refine VX.meek rfl ?_
    first | refine VX.meek rfl ?_ | refine VX.loadI rfl rfl au_l ?_ | refine VX.loadP rfl rfl rfl au_l ?_
    refine VX.callP0 rfl rfl rfl (hcl e.2) ?_
    refine VX.nil ?_
    refine VC.cond rfl (fun hc1 => ?_) (fun hc1 => ?_)
    · (try simp only [au_std] at hc1)
      refine VC.reg tab_ok [] rfl ?_
      iterate 3 refine VX.meek rfl ?_
      refine VX.nil ?_
      refine VC.ret ?_
      exact ⟨trivial, _, rfl, Cv.eq (by obtain ⟨j, hj⟩ := List.mem_iff_getElem?.1 (hR1 e (mem_at he)); unfold foundW; rw [posB_uniq hj hc1 (fun j' e' h1 h2 => hu j' j e' e h1 hj h2 hc1)]; simp only [getM hj]; rfl) hfp⟩
    · (try simp only [au_std] at hc1)
      refine VC.skip ?_
      refine ⟨R.eraseIdx i2, some (Value.int .i64 e.1, wtT e.2), by (try dsimp only); omega, ?_, (by refine ⟨[some 0], rfl, by first | trivial | decide, by first | rfl | (simp only [noO, Bool.and_true, Bool.and_eq_true]; first | assumption | (refine ⟨?_, ?_⟩ <;> assumption)) | (simp only [noO, *, Bool.and_true, Bool.true_and, Bool.and_self]; done), ?_, ?_⟩ <;> (repeat' first | exact trivial | exact CvB_n | exact CvB_d | exact CvB_o rfl | refine CvE_app ?_ ?_ | refine CvE_cons rfl ?_ ?_ | refine CvH_cons ?_ ?_ | refine CvB_c rfl ?_ | fail) <;> first | exact au_v | (fail))⟩
      exact ⟨fun x hx => hR1 x (List.mem_of_mem_eraseIdx hx), fun x hx hi => mem_erase he (hR2 x hx hi) (by rintro rfl; rw [hi] at hc1; cases hc1), hpi1⟩
/- looks at a map -/
theorem likeF {α : Type} (l : List (Int × α)) (id : Int) : ((kF l).all fun x => (likeK (.int .i64) (.int .i64 id) x).isSome) = true := by
  rw [List.all_map, List.all_eq_true]
  intro e _
  simp [likeK]
theorem find_none {α : Type} (f : α → T) : ∀ {l : List (Int × α)} {id : Int}, posK l id = none → mFind (.int .i64) (.int .i64 id) (kF l) (l.map fun e => f e.2) = none
  | [], _, _ => rfl
  | e :: l, id, h => by
    have h1 := posK_none h
    simp only [List.map_cons, List.mem_cons, not_or] at h1
    have h2 : posK l id = none := List.findIdx?_eq_none_iff.2 fun x hx => by
      have : id ≠ x.1 := fun k => h1.2 (k ▸ List.mem_map.2 ⟨x, hx, rfl⟩)
      simpa using fun k => this k.symm
    show (if likeK (.int .i64) (.int .i64 id) (.int .i64 e.1) = some true then _ else mFind _ _ (kF l) _) = none
    rw [if_neg (by simp only [likeK, if_true]; intro k; injection k with k; exact h1.1 (by simpa using k))]
    exact find_none f h2
theorem find_some {α : Type} (f : α → T) : ∀ {l : List (Int × α)} {id : Int} {i : Nat} {v : α}, (l.map Prod.fst).Nodup → l[i]? = some (id, v) → mFind (.int .i64) (.int .i64 id) (kF l) (l.map fun e => f e.2) = some (f v)
  | [], _, _, _, _, h => by simp at h
  | e :: l, id, 0, v, _, h => by
    simp at h; subst h
    show (if likeK (.int .i64) (.int .i64 id) (.int .i64 id) = some true then _ else _) = _
    rw [if_pos (by simp [likeK])]
  | e :: l, id, i + 1, v, hn, h => by
    simp at h
    rw [List.map_cons, List.nodup_cons] at hn
    have hne : ¬ id = e.1 := fun k => hn.1 (k ▸ List.mem_map.2 ⟨_, mem_at h, rfl⟩)
    show (if likeK (.int .i64) (.int .i64 id) (.int .i64 e.1) = some true then _ else mFind _ _ (kF l) _) = _
    rw [if_neg (by simp only [likeK, if_true]; intro k; injection k with k; exact hne (by simpa using k))]
    exact find_some f hn.2 h
def zFr : Fr := ⟨0, 0, 0, []⟩
def lkF (F : List (Int × Fr)) (id : Int) : Fr × Bool := match posK F id with | some i => ((F[i]!).2, true) | none => (zFr, false)
theorem lkF_none {F : List (Int × Fr)} {id : Int} (h : posK F id = none) : lkF F id = (zFr, false) := by unfold lkF; rw [h]
theorem lkF_some {F : List (Int × Fr)} {id : Int} {i : Nat} {v : Fr} (h : posK F id = some i) (he : F[i]? = some (id, v)) : lkF F id = (v, true) := by unfold lkF; rw [h]; simp only [getM he]
abbrev okT (ok : Bool) (r : T) (b : Bool) : T := if ok then .tup [r, BL b] else r
theorem lookF {F : List (Int × Fr)} (hn : (F.map Prod.fst).Nodup) (id : Int) (ok : Bool) : mLook2 tab 76 (kF F) (tF F) (.int .i64 id) ok = some (okT ok (frT (lkF F id).1) (lkF F id).2) := by
  have e : mLook2 tab 76 (kF F) (tF F) (.int .i64 id) ok = (if ((kF F).all fun x => (likeK (.int .i64) (.int .i64 id) x).isSome) && true then (match mFind (.int .i64) (.int .i64 id) (kF F) (tF F) with | some r => some (if ok then .tup [r, .v (.bool true)] else r) | none => some (if ok then .tup [frT zFr, .v (.bool false)] else frT zFr)) else none) := rfl
  rw [e, likeF]
  cases h : posK F id with
  | none => rw [find_none frT h, lkF_none h]; rfl
  | some i =>
    obtain ⟨v, he⟩ := posK_some h
    rw [find_some frT hn he, lkF_some h he]; rfl
theorem lookW_some {W : List (Int × Wt)} (hn : (W.map Prod.fst).Nodup) {id : Int} {i : Nat} {v : Wt} (he : W[i]? = some (id, v)) (ok : Bool) : mLook2 tab 77 (kF W) (tW W) (.int .i64 id) ok = some (okT ok (wtT v) true) := by
  have e : mLook2 tab 77 (kF W) (tW W) (.int .i64 id) ok = (if ((kF W).all fun x => (likeK (.int .i64) (.int .i64 id) x).isSome) && true then (match mFind (.int .i64) (.int .i64 id) (kF W) (tW W) with | some r => some (if ok then .tup [r, .v (.bool true)] else r) | none => some (if ok then .tup [.agg [I64 0, I64 0, BL false, I64 0, I64 0], .v (.bool false)] else .agg [I64 0, I64 0, BL false, I64 0, I64 0])) else none) := rfl
  rw [e, likeF, find_some wtT hn he]; rfl
theorem lookW_none {W : List (Int × Wt)} {id : Int} (h : posK W id = none) (ok : Bool) : mLook2 tab 77 (kF W) (tW W) (.int .i64 id) ok = some (okT ok (.agg [I64 0, I64 0, BL false, I64 0, I64 0]) false) := by
  have e : mLook2 tab 77 (kF W) (tW W) (.int .i64 id) ok = (if ((kF W).all fun x => (likeK (.int .i64) (.int .i64 id) x).isSome) && true then (match mFind (.int .i64) (.int .i64 id) (kF W) (tW W) with | some r => some (if ok then .tup [r, .v (.bool true)] else r) | none => some (if ok then .tup [.agg [I64 0, I64 0, BL false, I64 0, I64 0], .v (.bool false)] else .agg [I64 0, I64 0, BL false, I64 0, I64 0])) else none) := rfl
  rw [e, likeF, find_none wtT h]; rfl
abbrev mF (m : Mg) : OP := mapP (kF m.F) (tF m.F)
abbrev mW (m : Mg) : OP := mapP (kF m.W) (tW m.W)
theorem opM_look {look : Look} {nx : Nat} {ρ : EnvF} {t : TypeId} {x y : Operand} {ok : Bool} {ks : List Value} {ts : List T} {kv : Value} {r : T} (h1 : ρ x = some (.mp ks ts)) (h2 : ρ y = some (.v kv)) (h : mLook2 tab t ks ts kv ok = some r) : opM tab look nx ρ (.lookup t x y ok) = some (r, none) := by
  simp only [opM, h1, h2, mLookup, h]
abbrev askZ (l : List Rq) : T := .islc (encL cRn l) l.length none
theorem fz_turn (m : Mg) (l : List Rq) : Cv (vwL (tnH m (mF m) (mW m) l) []) (.ptr 0 0) (.iptr (tzC m (askZ l)) 0) :=
  Cv.fptr ⟨rfl, by simp⟩ (CvL.cons (Cv.pure rfl) (CvL.cons (Cv.pure rfl) (CvL.cons (Cv.pure rfl) (CvL.cons (Cv.pure rfl) (CvL.cons (Cv.pure rfl) (CvL.cons (Cv.fom ⟨rfl, by simp⟩ (CvL.pure (pF m.F))) (CvL.cons (Cv.fom ⟨rfl, by simp⟩ (CvL.pure (pW m.W))) (CvL.cons (Cv.pure rfl) (CvL.cons (Cv.pure rfl) (CvL.cons (Cv.pure rfl) (CvL.cons (Cv.pure rfl) (CvL.cons (Cv.fslc0 ⟨rfl, by simp⟩ (CvL.pure (encL_pure _ _))) CvL.nil))))))))))))
theorem askZ_pure (l : List Rq) : (askZ l).pure = true := by simp only [T.pure, encL_pure]
theorem waiting_t (m : Mg) (f : FuncId) (cs : List T) (is : Wt → Bool) (l : List Rq) (hcs : T.pureL cs = true) (hu : ∀ (i j : Nat) (x y : Int × Wt), m.W[i]? = some x → m.W[j]? = some y → is x.2 = true → is y.2 = true → i = j)
    (hcl : ∀ k, CallP Tryd.prog f ([] ++ [wtT k] ++ cs) (BL (is k))) :
    CallT Tryd.prog 81 [.ptr 0 0, .clo f [] cs] (tnH m (mF m) (mW m) l) (fun t H' => t = foundW m is ∧ H' = tnH m (mF m) (mW m) l) :=
  (waiting_p m (askZ l) f cs is (askZ_pure l) hcs hu hcl).look (by unfold foundW; split <;> rfl) (CvL.cons (fz_turn m l) (CvL.cons (Cv.pure (by simp only [T.pure, hcs]; rfl)) CvL.nil))
theorem draw_t (m : Mg) (p q : OP) (f : Fr) (l : List Rq) (hl : l.length ≤ 100) (hc : 0 ≤ m.cnt ∧ m.cnt ≤ 2000000) (hb : 1048576 ≤ m.base ∧ m.base ≤ 8388608) (hp : p.pi = true) (hq : q.pi = true) :
    CallT Tryd.prog 124 [.ptr 0 0, frT f] (tnH m p q l) (fun t H' => t = .tup [] ∧ H' = tnH1 (m.up 1) p q (l ++ [m.draw f])) := by
  have ht : CallT Tryd.prog 55 [.ptr 0 0, strT f.title, I64 36, .islc [I64 f.fr, I64 (m.base + 1), I64 1, I64 7, I64 1] 5 (some 5)] (tnH m p q l) (fun t H' => t = .tup [] ∧ H' = tnH1 (m.up 1) p q (l ++ [m.draw f])) := text_t m p q f.title 36 f.fr [m.base + 1, 1, 7, 1] (some 5) l (by simp) hl hc hp hq
  refine CallT.intro tab_ok Tryd.func124 rfl (by kernel_rfl) (Nat.le_of_ble_eq_true rfl) ?_
  refine VC.reg tab_ok [3] rfl ?_
  refine VX.newI rfl rfl ?_
  refine VX.nil ?_
  refine VC.drwN tab_ok [15] [_, _, _, _, _, _, _, _, _, _, _, _] rfl (by kernel_rfl) (by kernel_rfl) ?_
  iterate 2 refine VX.meek rfl ?_
  first | refine VX.meek rfl ?_ | refine VX.loadI rfl rfl au_l ?_ | refine VX.loadP rfl rfl rfl au_l ?_
  refine VX.meek rfl ?_
  first | refine VX.meek rfl ?_ | refine VX.loadI rfl rfl au_l ?_ | refine VX.loadP rfl rfl rfl au_l ?_
  iterate 4 refine VX.meek rfl ?_
  first | refine VX.meek rfl ?_ | refine VX.loadI rfl rfl au_l ?_ | refine VX.loadP rfl rfl rfl au_l ?_
  refine VX.callP0 rfl rfl rfl (pen_p m hb) ?_
  refine VX.newI rfl rfl ?_
  refine VX.nil ?_
  refine VX.callT rfl rfl (CallT.frame (ht) [0, 1, 2, 3] rfl au_ci au_ci ?_)
  rintro _ _ ⟨rfl, rfl⟩
  refine frK au_co au_co ?_
  refine VX.nil ?_
  exact ⟨trivial, _, rfl, rfl, rfl⟩
end
section
open Go.RowKit
set_option maxRecDepth 10000
set_option maxHeartbeats 1000000
abbrev tnH2 (m : Mg) (p q : OP) (l : List Rq) : Hp := [.c (tnC m (askT 5 l)), .o p, .o q, .d, .d, .c (encL cRn l)]
def ranH (m : Mg) (rs l : List Rq) : Hp := match rs with | [] => tnH m (mF m) (mW m) l | [r] => tnH1 m (mF m) (mW m) (l ++ [r]) | r :: r2 :: rs => tnH2 m (mF m) (mW m) (l ++ r :: r2 :: rs)
theorem keyNew {α : Type} {l : List (Int × α)} {id : Int} (h : id ∉ l.map Prod.fst) : Value.int .i64 id ∉ kF l := fun k => by
  obtain ⟨e, h1, h2⟩ := List.mem_map.1 k
  injection h2 with _ h2
  exact h (List.mem_map.2 ⟨e, h1, h2⟩)
theorem keyAt {α : Type} {l : List (Int × α)} {i : Nat} {id : Int} {v : α} (h : l[i]? = some (id, v)) : (kF l)[i]? = some (.int .i64 id) := by rw [List.getElem?_map, h]; rfl
theorem addF (l : List (Int × Fr)) (id : Int) (v : Fr) : mapP (kF l ++ [.int .i64 id]) (tF l ++ [frT v]) = mapP (kF (l ++ [(id, v)])) (tF (l ++ [(id, v)])) := by rw [kF, kF, tF, tF, List.map_append, List.map_append]; rfl
theorem addW (l : List (Int × Wt)) (id : Int) (v : Wt) : mapP (kF l ++ [.int .i64 id]) (tW l ++ [wtT v]) = mapP (kF (l ++ [(id, v)])) (tW (l ++ [(id, v)])) := by rw [kF, kF, tW, tW, List.map_append, List.map_append]; rfl
theorem kF_set {α : Type} {l : List (Int × α)} {i : Nat} {id : Int} {v v' : α} (h : l[i]? = some (id, v)) : kF (l.set i (id, v')) = kF l := set_map_eq h rfl
theorem setF {l : List (Int × Fr)} {i : Nat} {id : Int} {v v' : Fr} (h : l[i]? = some (id, v)) : mapP (kF l) ((tF l).set i (frT v')) = mapP (kF (l.set i (id, v'))) (tF (l.set i (id, v'))) := by rw [kF_set h, tF, tF, List.map_set]
theorem setW {l : List (Int × Wt)} {i : Nat} {id : Int} {v v' : Wt} (h : l[i]? = some (id, v)) : mapP (kF l) ((tW l).set i (wtT v')) = mapP (kF (l.set i (id, v'))) (tW (l.set i (id, v'))) := by rw [kF_set h, tW, tW, List.map_set]
theorem delW (l : List (Int × Wt)) (i : Nat) : mapP ((kF l).eraseIdx i) ((tW l).eraseIdx i) = mapP (kF (l.eraseIdx i)) (tW (l.eraseIdx i)) := by rw [kF, kF, tW, tW, erase_map, erase_map]
theorem cv_tn {v : Vw} {m : Mg} {a a' : T} (h1 : Cv v (.om 1) (.om 1)) (h2 : Cv v (.om 2) (.om 2)) (h3 : Cv v a a') : CvL v (tnC m a) (tnC m a') :=
  CvL.cons (Cv.pure rfl) (CvL.cons (Cv.pure rfl) (CvL.cons (Cv.pure rfl) (CvL.cons (Cv.pure rfl) (CvL.cons (Cv.pure rfl) (CvL.cons h1 (CvL.cons h2 (CvL.cons (Cv.pure rfl) (CvL.cons (Cv.pure rfl) (CvL.cons (Cv.pure rfl) (CvL.cons (Cv.pure rfl) (CvL.cons h3 CvL.nil)))))))))))
theorem up2 (m : Mg) : (m.up 1).up 1 = m.up 2 := by
  have : m.cnt + 1 + 1 = m.cnt + 2 := by omega
  simp only [Mg.up, this]
theorem mapReq_t (m : Mg) (n : List Int) (top : Int) (ok : m.Ok top) (htop : top ≤ 1000000) (hn : 2 ≤ n.length) :
    CallT Tryd.prog 89 [.ptr 0 0, cIf n] (tnH m (mF m) (mW m) []) (fun t H' => t = .tup [] ∧ H' = ranH (m.mapReq n[1]!).1 (m.mapReq n[1]!).2 []) := by
  have hc := ok.cnt
  have hpF := piF m.F
  have hpW := piW m.W
  cases h1 : posK m.F n[1]! with
  | some i =>
    obtain ⟨v, he⟩ := posK_some h1
    have hr : m.mapReq n[1]! = (m.up 2, [rq 3 [n[1]!], rq 3 [v.fr]]) := by unfold Mg.mapReq; rw [h1]; simp only [getM he]
    have hlk := lookF ok.fk n[1]! true
    rw [lkF_some h1 he] at hlk
    rw [hr]
    have ha := ask1_t m (mF m) (mW m) 3 n[1]! [] (by simp) (by omega) hpF hpW
    have hb := ask1_t (m.up 1) (mF m) (mW m) 3 v.fr [rq 3 [n[1]!]] (by simp) (by show 0 ≤ m.cnt + 1 ∧ m.cnt + 1 ≤ 2000000; omega) hpF hpW
    rw [up2] at hb
    refine CallT.intro tab_ok Tryd.func89 rfl (by kernel_rfl) (Nat.le_of_ble_eq_true rfl) ?_
    refine VC.reg tab_ok [] rfl ?_
    refine VX.meek rfl ?_
    first | refine VX.idxI rfl rfl rfl rfl rfl rfl (by omega) ?_ | refine VX.idxO0 rfl rfl rfl rfl rfl rfl rfl (by omega) ?_ | refine VX.idxO0 rfl rfl rfl rfl rfl rfl au_z (by omega) ?_ | refine VX.idxO rfl rfl rfl rfl rfl rfl rfl (by omega) ?_ | refine VX.idxI rfl rfl rfl rfl rfl au_z (by omega) ?_ | refine VX.idxO rfl rfl rfl rfl rfl rfl au_z (by omega) ?_ | refine VX.meek rfl ?_
    first | refine VX.meek rfl ?_ | refine VX.loadI rfl rfl au_l ?_ | refine VX.loadP rfl rfl rfl au_l ?_
    refine VX.meek rfl ?_
    refine VX.nil ?_
    refine VC.seq ?_
    refine VC.reg tab_ok [] rfl ?_
    iterate 4 refine VX.meek rfl ?_
    first | refine VX.meek rfl ?_ | refine VX.loadI rfl rfl au_l ?_ | refine VX.loadP rfl rfl rfl au_l ?_
    refine VX.meek rfl ?_
    refine VX.lookO tab_ok rfl rfl rfl hlk ?_
    iterate 3 refine VX.meek rfl ?_
    refine VX.new rfl rfl ?_
    refine VX.store rfl rfl rfl rfl rfl au_s rfl ?_
    refine VX.meek rfl ?_
    refine VX.nil ?_
    refine VC.view ([(0, .ptr 0 0), (5, .iptr (frC v) 0)]) (tnH m (mF m) (mW m) []) [4, 6] rfl (by refine ⟨[some 0, some 1, some 2, some 3], rfl, by first | trivial | decide, by first | rfl | (simp only [noO, Bool.and_true, Bool.and_eq_true]; first | assumption | (refine ⟨?_, ?_⟩ <;> assumption)) | (simp only [noO, *, Bool.and_true, Bool.true_and, Bool.and_self]; done), ?_, ?_⟩ <;> (repeat' first | exact trivial | exact CvB_n | exact CvB_d | exact CvB_o rfl | refine CvE_app ?_ ?_ | refine CvE_cons rfl ?_ ?_ | refine CvH_cons ?_ ?_ | refine CvB_c rfl ?_ | fail) <;> first | exact au_v | (first | exact cv_tn (Cv.om rfl) (Cv.om rfl) (Cv.slc rfl (.inr rfl)) | exact cv_tn (Cv.om rfl) (Cv.om rfl) (Cv.slc rfl (.inl rfl)) | exact CvL.pure (encL_pure _ _) | exact Cv.ptr rfl | exact Cv.fptr ⟨rfl, (by simp)⟩ (CvL.pure rfl))) ?_
    refine VC.reg tab_ok [] rfl ?_
    refine VX.meek rfl ?_
    refine VX.nil ?_
    refine VC.condT rfl ?_
    refine VC.reg tab_ok [26] rfl ?_
    iterate 2 refine VX.meek rfl ?_
    refine VX.newI rfl rfl ?_
    refine VX.callT rfl rfl (CallT.frame (ha) [0, 1, 2, 3] rfl au_ci au_ci ?_)
    rintro _ _ ⟨rfl, rfl⟩
    refine frK au_co au_co ?_
    refine VX.nil ?_
    refine VC.reg tab_ok [31] rfl ?_
    iterate 2 refine VX.meek rfl ?_
    first | refine VX.meek rfl ?_ | refine VX.loadI rfl rfl au_l ?_ | refine VX.loadP rfl rfl rfl au_l ?_
    refine VX.newI rfl rfl ?_
    refine VX.callT rfl rfl (CallT.frame (hb) [0, 1, 2, 4] rfl au_ci au_ci ?_)
    rintro _ _ ⟨rfl, rfl⟩
    refine frK au_co au_co ?_
    refine VX.nil ?_
    refine VC.view ([]) (tnH2 (m.up 2) (mF m) (mW m) [rq 3 [n[1]!], rq 3 [v.fr]]) [] rfl (by refine ⟨[some 0, some 1, some 2, some 3, some 4, some 5], rfl, by first | trivial | decide, by first | rfl | (simp only [noO, Bool.and_true, Bool.and_eq_true]; first | assumption | (refine ⟨?_, ?_⟩ <;> assumption)) | (simp only [noO, *, Bool.and_true, Bool.true_and, Bool.and_self]; done), ?_, ?_⟩ <;> (repeat' first | exact trivial | exact CvB_n | exact CvB_d | exact CvB_o rfl | refine CvE_app ?_ ?_ | refine CvE_cons rfl ?_ ?_ | refine CvH_cons ?_ ?_ | refine CvB_c rfl ?_ | fail) <;> first | exact au_v | (first | exact cv_tn (Cv.om rfl) (Cv.om rfl) (Cv.slc rfl (.inr rfl)) | exact cv_tn (Cv.om rfl) (Cv.om rfl) (Cv.slc rfl (.inl rfl)) | exact CvL.pure (encL_pure _ _) | exact Cv.ptr rfl | exact Cv.fptr ⟨rfl, (by simp)⟩ (CvL.pure rfl))) ?_
    refine VC.ret ?_
    exact ⟨trivial, _, rfl, rfl, rfl⟩
  | none =>
    have hnF := posK_none h1
    have hlk := lookF ok.fk n[1]! true
    rw [lkF_none h1] at hlk
    cases h2 : posK m.W n[1]! with
    | some i =>
      obtain ⟨v, he⟩ := posK_some h2
      have hr : m.mapReq n[1]! = (m, []) := by unfold Mg.mapReq; rw [h1, h2]
      have hlw := lookW_some ok.wk he true
      rw [hr]
      refine CallT.intro tab_ok Tryd.func89 rfl (by kernel_rfl) (Nat.le_of_ble_eq_true rfl) ?_
      refine VC.reg tab_ok [] rfl ?_
      refine VX.meek rfl ?_
      first | refine VX.idxI rfl rfl rfl rfl rfl rfl (by omega) ?_ | refine VX.idxO0 rfl rfl rfl rfl rfl rfl rfl (by omega) ?_ | refine VX.idxO0 rfl rfl rfl rfl rfl rfl au_z (by omega) ?_ | refine VX.idxO rfl rfl rfl rfl rfl rfl rfl (by omega) ?_ | refine VX.idxI rfl rfl rfl rfl rfl au_z (by omega) ?_ | refine VX.idxO rfl rfl rfl rfl rfl rfl au_z (by omega) ?_ | refine VX.meek rfl ?_
      first | refine VX.meek rfl ?_ | refine VX.loadI rfl rfl au_l ?_ | refine VX.loadP rfl rfl rfl au_l ?_
      refine VX.meek rfl ?_
      refine VX.nil ?_
      refine VC.seq ?_
      refine VC.reg tab_ok [] rfl ?_
      iterate 4 refine VX.meek rfl ?_
      first | refine VX.meek rfl ?_ | refine VX.loadI rfl rfl au_l ?_ | refine VX.loadP rfl rfl rfl au_l ?_
      refine VX.meek rfl ?_
      refine VX.lookO tab_ok rfl rfl rfl hlk ?_
      iterate 3 refine VX.meek rfl ?_
      refine VX.new rfl rfl ?_
      refine VX.store rfl rfl rfl rfl rfl au_s rfl ?_
      refine VX.meek rfl ?_
      refine VX.nil ?_
      refine VC.reg tab_ok [] rfl ?_
      refine VX.meek rfl ?_
      refine VX.nil ?_
      refine VC.condF rfl ?_
      refine VC.skip ?_
      refine VC.seq ?_
      refine VC.reg tab_ok [] rfl ?_
      iterate 4 refine VX.meek rfl ?_
      first | refine VX.meek rfl ?_ | refine VX.loadI rfl rfl au_l ?_ | refine VX.loadP rfl rfl rfl au_l ?_
      refine VX.meek rfl ?_
      refine VX.lookO tab_ok rfl rfl rfl hlw ?_
      iterate 3 refine VX.meek rfl ?_
      refine VX.new rfl rfl ?_
      refine VX.store rfl rfl rfl rfl rfl au_s rfl ?_
      refine VX.meek rfl ?_
      refine VX.nil ?_
      refine VC.view ([(0, .ptr 0 0)]) (tnH m (mF m) (mW m) []) [4, 8] rfl (by refine ⟨[some 0, some 1, some 2, some 3], rfl, by first | trivial | decide, by first | rfl | (simp only [noO, Bool.and_true, Bool.and_eq_true]; first | assumption | (refine ⟨?_, ?_⟩ <;> assumption)) | (simp only [noO, *, Bool.and_true, Bool.true_and, Bool.and_self]; done), ?_, ?_⟩ <;> (repeat' first | exact trivial | exact CvB_n | exact CvB_d | exact CvB_o rfl | refine CvE_app ?_ ?_ | refine CvE_cons rfl ?_ ?_ | refine CvH_cons ?_ ?_ | refine CvB_c rfl ?_ | fail) <;> first | exact au_v | (first | exact cv_tn (Cv.om rfl) (Cv.om rfl) (Cv.slc rfl (.inr rfl)) | exact cv_tn (Cv.om rfl) (Cv.om rfl) (Cv.slc rfl (.inl rfl)) | exact CvL.pure (encL_pure _ _) | exact Cv.ptr rfl | exact Cv.fptr ⟨rfl, (by simp)⟩ (CvL.pure rfl))) ?_
      refine VC.reg tab_ok [] rfl ?_
      refine VX.meek rfl ?_
      refine VX.nil ?_
      refine VC.condT rfl ?_
      refine VC.ret ?_
      exact ⟨trivial, _, rfl, rfl, rfl⟩
    | none =>
      have hnW := posK_none h2
      have hr : m.mapReq n[1]! = ({ m with cnt := m.cnt + 2, W := m.W ++ [(n[1]!, ⟨m.cnt + 1, false, 0, 0⟩)] }, [rq 9 [n[1]!], rq 15 [n[1]!, 8, 0, 0, 64, 0]]) := by unfold Mg.mapReq; rw [h1, h2]
      have hlw := lookW_none h2 true
      rw [hr]
      have ha := ask1_t m (mF m) (mW m) 9 n[1]! [] (by simp) (by omega) hpF hpW
      have hb := ask6_t (m.up 1) (mF m) (mW m) 15 n[1]! 8 0 0 64 0 [rq 9 [n[1]!]] (by simp) (by show 0 ≤ m.cnt + 1 ∧ m.cnt + 1 ≤ 2000000; omega) hpF hpW
      rw [up2] at hb
      have hfin : mapP (kF m.W ++ [.int .i64 n[1]!]) (tW m.W ++ [T.agg [I64 (m.cnt + 1), I64 (m.cnt + 2), BL false, I64 0, I64 0]]) = mapP (kF (m.W ++ [(n[1]!, ⟨m.cnt + 1, false, 0, 0⟩)])) (tW (m.W ++ [(n[1]!, ⟨m.cnt + 1, false, 0, 0⟩)])) := by rw [show m.cnt + 2 = m.cnt + 1 + 1 from by omega]; exact addW m.W n[1]! ⟨m.cnt + 1, false, 0, 0⟩
      refine CallT.intro tab_ok Tryd.func89 rfl (by kernel_rfl) (Nat.le_of_ble_eq_true rfl) ?_
      refine VC.reg tab_ok [] rfl ?_
      refine VX.meek rfl ?_
      first | refine VX.idxI rfl rfl rfl rfl rfl rfl (by omega) ?_ | refine VX.idxO0 rfl rfl rfl rfl rfl rfl rfl (by omega) ?_ | refine VX.idxO0 rfl rfl rfl rfl rfl rfl au_z (by omega) ?_ | refine VX.idxO rfl rfl rfl rfl rfl rfl rfl (by omega) ?_ | refine VX.idxI rfl rfl rfl rfl rfl au_z (by omega) ?_ | refine VX.idxO rfl rfl rfl rfl rfl rfl au_z (by omega) ?_ | refine VX.meek rfl ?_
      first | refine VX.meek rfl ?_ | refine VX.loadI rfl rfl au_l ?_ | refine VX.loadP rfl rfl rfl au_l ?_
      refine VX.meek rfl ?_
      refine VX.nil ?_
      refine VC.seq ?_
      refine VC.reg tab_ok [] rfl ?_
      iterate 4 refine VX.meek rfl ?_
      first | refine VX.meek rfl ?_ | refine VX.loadI rfl rfl au_l ?_ | refine VX.loadP rfl rfl rfl au_l ?_
      refine VX.meek rfl ?_
      refine VX.lookO tab_ok rfl rfl rfl hlk ?_
      iterate 3 refine VX.meek rfl ?_
      refine VX.new rfl rfl ?_
      refine VX.store rfl rfl rfl rfl rfl au_s rfl ?_
      refine VX.meek rfl ?_
      refine VX.nil ?_
      refine VC.reg tab_ok [] rfl ?_
      refine VX.meek rfl ?_
      refine VX.nil ?_
      refine VC.condF rfl ?_
      refine VC.skip ?_
      refine VC.seq ?_
      refine VC.reg tab_ok [] rfl ?_
      iterate 4 refine VX.meek rfl ?_
      first | refine VX.meek rfl ?_ | refine VX.loadI rfl rfl au_l ?_ | refine VX.loadP rfl rfl rfl au_l ?_
      refine VX.meek rfl ?_
      refine VX.lookO tab_ok rfl rfl rfl hlw ?_
      iterate 3 refine VX.meek rfl ?_
      refine VX.new rfl rfl ?_
      refine VX.store rfl rfl rfl rfl rfl au_s rfl ?_
      refine VX.meek rfl ?_
      refine VX.nil ?_
      refine VC.view ([(0, .ptr 0 0)]) (tnH m (mF m) (mW m) []) [4, 8] rfl (by refine ⟨[some 0, some 1, some 2, some 3], rfl, by first | trivial | decide, by first | rfl | (simp only [noO, Bool.and_true, Bool.and_eq_true]; first | assumption | (refine ⟨?_, ?_⟩ <;> assumption)) | (simp only [noO, *, Bool.and_true, Bool.true_and, Bool.and_self]; done), ?_, ?_⟩ <;> (repeat' first | exact trivial | exact CvB_n | exact CvB_d | exact CvB_o rfl | refine CvE_app ?_ ?_ | refine CvE_cons rfl ?_ ?_ | refine CvH_cons ?_ ?_ | refine CvB_c rfl ?_ | fail) <;> first | exact au_v | (first | exact cv_tn (Cv.om rfl) (Cv.om rfl) (Cv.slc rfl (.inr rfl)) | exact cv_tn (Cv.om rfl) (Cv.om rfl) (Cv.slc rfl (.inl rfl)) | exact CvL.pure (encL_pure _ _) | exact Cv.ptr rfl | exact Cv.fptr ⟨rfl, (by simp)⟩ (CvL.pure rfl))) ?_
      refine VC.reg tab_ok [] rfl ?_
      refine VX.meek rfl ?_
      refine VX.nil ?_
      refine VC.condF rfl ?_
      refine VC.skip ?_
      refine VC.reg tab_ok [46] rfl ?_
      iterate 2 refine VX.meek rfl ?_
      refine VX.newI rfl rfl ?_
      refine VX.callT rfl rfl (CallT.frame (ha) [0, 1, 2, 3] rfl au_ci au_ci ?_)
      rintro _ _ ⟨rfl, rfl⟩
      refine frK au_co au_co ?_
      refine VX.nil ?_
      refine VC.reg tab_ok [] rfl ?_
      iterate 5 refine VX.meek rfl ?_
      first | refine VX.meek rfl ?_ | refine VX.loadI rfl rfl au_l ?_ | refine VX.loadP rfl rfl rfl au_l ?_
      refine VX.meek rfl ?_
      refine VX.nil ?_
      refine VC.reg tab_ok [56] rfl ?_
      iterate 2 refine VX.meek rfl ?_
      refine VX.newI rfl rfl ?_
      refine VX.callT rfl rfl (CallT.frame (hb) [0, 1, 2, 4] rfl au_ci au_ci ?_)
      rintro _ _ ⟨rfl, rfl⟩
      refine frK au_co au_co ?_
      refine VX.nil ?_
      refine VC.view ([(0, .ptr 0 0)]) (tnH2 (m.up 2) (mF m) (mW m) [rq 9 [n[1]!], rq 15 [n[1]!, 8, 0, 0, 64, 0]]) [4, 9] rfl (by refine ⟨[some 0, some 1, some 2, some 3, some 4, some 5], rfl, by first | trivial | decide, by first | rfl | (simp only [noO, Bool.and_true, Bool.and_eq_true]; first | assumption | (refine ⟨?_, ?_⟩ <;> assumption)) | (simp only [noO, *, Bool.and_true, Bool.true_and, Bool.and_self]; done), ?_, ?_⟩ <;> (repeat' first | exact trivial | exact CvB_n | exact CvB_d | exact CvB_o rfl | refine CvE_app ?_ ?_ | refine CvE_cons rfl ?_ ?_ | refine CvH_cons ?_ ?_ | refine CvB_c rfl ?_ | fail) <;> first | exact au_v | (first | exact cv_tn (Cv.om rfl) (Cv.om rfl) (Cv.slc rfl (.inr rfl)) | exact cv_tn (Cv.om rfl) (Cv.om rfl) (Cv.slc rfl (.inl rfl)) | exact CvL.pure (encL_pure _ _) | exact Cv.ptr rfl | exact Cv.fptr ⟨rfl, (by simp)⟩ (CvL.pure rfl))) ?_
      refine VC.drwN tab_ok [] [_, _, _, _, _, _, _, _, _, _, _, _, _, _] rfl (by kernel_rfl) (by kernel_rfl) ?_
      iterate 4 refine VX.meek rfl ?_
      first | refine VX.meek rfl ?_ | refine VX.loadI rfl rfl au_l ?_ | refine VX.loadP rfl rfl rfl au_l ?_
      iterate 7 refine VX.meek rfl ?_
      first | refine VX.meek rfl ?_ | refine VX.loadI rfl rfl au_l ?_ | refine VX.loadP rfl rfl rfl au_l ?_
      refine VX.meek rfl ?_
      refine VX.nil ?_
      refine VX.updNew tab_ok rfl rfl rfl rfl rfl rfl rfl rfl (by exact likeF _ _) (keyNew hnW) ?_
      refine VX.nil ?_
      refine ⟨trivial, _, rfl, rfl, ?_⟩; exact congrArg (fun p => ([.c (tnC (m.up 2) (askT 5 [rq 9 [n[1]!], rq 15 [n[1]!, 8, 0, 0, 64, 0]])), .o (mF m), .o p, .d, .d, .c (encL cRn [rq 9 [n[1]!], rq 15 [n[1]!, 8, 0, 0, 64, 0]])] : Hp)) hfin
end
section
open Go.RowKit
set_option maxRecDepth 10000
set_option maxHeartbeats 1000000
abbrev otC (o : Ot) : List T := [I64 o.kind, I64 o.code, I64 o.seq, cIf o.n, strT o.b, cIf o.l]
abbrev otT (o : Ot) : T := .agg (otC o)
theorem ot_pure (o : Ot) : T.pureL (otC o) = true := by simp only [T.pureL, T.pure, encL_pure]; rfl
def isR (seq : Int) (k : Wt) : Bool := k.g == seq || k.g + 1 == seq
theorem clo_r (seq : Int) (k : Wt) : CallP Tryd.prog 82 ([] ++ [wtT k] ++ [.iptr [I64 seq] 0]) (BL (isR seq k)) := by
  show CallP Tryd.prog 82 [wtT k, .iptr [I64 seq] 0] (BL (isR seq k))
  unfold isR
  refine CallP.intro2 au_pu au_pu ?_
  refine CallT.intro tab_ok Tryd.func82 rfl (by kernel_rfl) (Nat.le_of_ble_eq_true rfl) ?_
  refine VC.reg tab_ok [2] rfl ?_
  refine VX.newI rfl rfl ?_
  refine VX.meek rfl ?_
  refine VX.nil ?_
  refine VC.reg tab_ok [] rfl ?_
  refine VX.meek rfl ?_
  first | refine VX.meek rfl ?_ | refine VX.loadI rfl rfl au_l ?_ | refine VX.loadP rfl rfl rfl au_l ?_
  first | refine VX.meek rfl ?_ | refine VX.loadI rfl rfl au_l ?_ | refine VX.loadP rfl rfl rfl au_l ?_
  iterate 2 refine VX.meek rfl ?_
  refine' VX.merge (d := 13) [_, _, _, _, _] rfl ?_ rfl ?_
  rotate_left
  · refine VX.guard rfl rfl (fun hb1_4 => ?_) (fun hb1_4 => ?_)
    · have ghb1_4 := hb1_4
      try simp only [au_std, Bool.not_true, Bool.not_false] at ghb1_4
      refine VX.meek rfl ?_
      refine VX.guardT rfl rfl hb1_4 ?_
      first | refine VX.meek rfl ?_ | refine VX.loadI rfl rfl au_l ?_ | refine VX.loadP rfl rfl rfl au_l ?_
      refine VX.guardT rfl rfl hb1_4 ?_
      first | refine VX.meek rfl ?_ | refine VX.loadI rfl rfl au_l ?_ | refine VX.loadP rfl rfl rfl au_l ?_
      refine VX.guardT rfl rfl hb1_4 ?_
      refine VX.meek rfl ?_
      refine VX.pickO rfl (fun _ => rfl) ?_
      exact VX.nil ⟨rfl, rfl⟩
    · refine VX.guardF rfl rfl hb1_4 ?_
      refine VX.guardF rfl rfl hb1_4 ?_
      refine VX.guardF rfl rfl hb1_4 ?_
      exact VX.pickO rfl (fun h => absurd (h.symm.trans hb1_4) (by decide)) (VX.nil ⟨rfl, rfl⟩)
  refine VX.meek rfl ?_
  refine VX.nil ?_
  refine VC.ret ?_
  exact ⟨trivial, _, rfl, Cv.eq (by first | rfl | (simp [*]; done)) rfl⟩
theorem clo_a (o : Ot) (k : Wt) : CallP Tryd.prog 85 ([] ++ [wtT k] ++ [.iptr (otC o) 0]) (BL (k.g == o.seq)) := by
  show CallP Tryd.prog 85 [wtT k, .iptr (otC o) 0] (BL (k.g == o.seq))
  have ho := ot_pure o
  refine CallP.intro2 au_pu au_pu ?_
  refine CallT.intro tab_ok Tryd.func85 rfl (by kernel_rfl) (Nat.le_of_ble_eq_true rfl) ?_
  refine VC.reg tab_ok [2] rfl ?_
  refine VX.newI rfl rfl ?_
  refine VX.meek rfl ?_
  refine VX.nil ?_
  refine VC.reg tab_ok [] rfl ?_
  refine VX.meek rfl ?_
  first | refine VX.meek rfl ?_ | refine VX.loadI rfl rfl au_l ?_ | refine VX.loadP rfl rfl rfl au_l ?_
  refine VX.meek rfl ?_
  first | refine VX.meek rfl ?_ | refine VX.loadI rfl rfl au_l ?_ | refine VX.loadP rfl rfl rfl au_l ?_
  iterate 2 refine VX.meek rfl ?_
  refine VX.nil ?_
  refine VC.ret ?_
  exact ⟨trivial, _, rfl, Cv.eq (by first | rfl | (simp [*]; done)) rfl⟩
theorem clo_b (o : Ot) (k : Wt) : CallP Tryd.prog 86 ([] ++ [wtT k] ++ [.iptr (otC o) 0]) (BL (k.g + 1 == o.seq)) := by
  show CallP Tryd.prog 86 [wtT k, .iptr (otC o) 0] (BL (k.g + 1 == o.seq))
  have ho := ot_pure o
  refine CallP.intro2 au_pu au_pu ?_
  refine CallT.intro tab_ok Tryd.func86 rfl (by kernel_rfl) (Nat.le_of_ble_eq_true rfl) ?_
  refine VC.reg tab_ok [2] rfl ?_
  refine VX.newI rfl rfl ?_
  refine VX.meek rfl ?_
  refine VX.nil ?_
  refine VC.reg tab_ok [] rfl ?_
  refine VX.meek rfl ?_
  first | refine VX.meek rfl ?_ | refine VX.loadI rfl rfl au_l ?_ | refine VX.loadP rfl rfl rfl au_l ?_
  refine VX.meek rfl ?_
  first | refine VX.meek rfl ?_ | refine VX.loadI rfl rfl au_l ?_ | refine VX.loadP rfl rfl rfl au_l ?_
  iterate 2 refine VX.meek rfl ?_
  refine VX.nil ?_
  refine VC.ret ?_
  exact ⟨trivial, _, rfl, Cv.eq (by first | rfl | (simp [*]; done)) rfl⟩
theorem refused_t (m : Mg) (seq top : Int) (ok : m.Ok top) :
    CallT Tryd.prog 60 [.ptr 0 0, I64 seq] (tnH m (mF m) (mW m) []) (fun t H' => t = .tup [] ∧ H' = tnH (m.refused seq) (mF (m.refused seq)) (mW (m.refused seq)) []) := by
  have hpF := piF m.F
  have hpW := piW m.W
  have hwt := waiting_t m 82 [.iptr [I64 seq] 0] (isR seq) [] rfl (fun i j x y hx hy h1 h2 => ok.one seq hx hy (by unfold isR at h1; simp at h1; omega) (by unfold isR at h2; simp at h2; omega)) (clo_r seq)
  cases h1 : posB m.W (isR seq) with
  | none =>
    have hr : m.refused seq = m := by unfold Mg.refused; rw [show posB m.W (fun k => k.g == seq || k.g + 1 == seq) = none from h1]
    have hfw : foundW m (isR seq) = .tup [I64 0, BL false] := by unfold foundW; rw [h1]
    rw [hfw] at hwt
    rw [hr]
    refine CallT.intro tab_ok Tryd.func60 rfl (by kernel_rfl) (Nat.le_of_ble_eq_true rfl) ?_
    refine VC.reg tab_ok [3] rfl ?_
    refine VX.newI rfl rfl ?_
    refine VX.nil ?_
    refine VC.reg tab_ok [] rfl ?_
    iterate 2 refine VX.meek rfl ?_
    refine VX.callT rfl rfl (CallT.frame (hwt) [0, 1, 2, 3] rfl au_ci au_ci ?_)
    rintro _ _ ⟨rfl, rfl⟩
    refine frK au_co au_co ?_
    iterate 5 refine VX.meek rfl ?_
    refine VX.nil ?_
    refine VC.reg tab_ok [] rfl ?_
    refine VX.meek rfl ?_
    refine VX.nil ?_
    refine VC.condF rfl ?_
    refine VC.skip ?_
    exact ⟨trivial, _, rfl, rfl, rfl⟩
  | some i =>
    obtain ⟨⟨id, v⟩, he, -⟩ := posB_some h1
    have hr : m.refused seq = { m with W := m.W.eraseIdx i } := by unfold Mg.refused; rw [show posB m.W (fun k => k.g == seq || k.g + 1 == seq) = some i from h1]
    have hfw : foundW m (isR seq) = .tup [I64 id, BL true] := by unfold foundW; rw [h1]; simp only [getM he]
    rw [hfw] at hwt
    rw [hr]
    refine CallT.intro tab_ok Tryd.func60 rfl (by kernel_rfl) (Nat.le_of_ble_eq_true rfl) ?_
    refine VC.reg tab_ok [3] rfl ?_
    refine VX.newI rfl rfl ?_
    refine VX.nil ?_
    refine VC.reg tab_ok [] rfl ?_
    iterate 2 refine VX.meek rfl ?_
    refine VX.callT rfl rfl (CallT.frame (hwt) [0, 1, 2, 3] rfl au_ci au_ci ?_)
    rintro _ _ ⟨rfl, rfl⟩
    refine frK au_co au_co ?_
    iterate 5 refine VX.meek rfl ?_
    refine VX.nil ?_
    refine VC.reg tab_ok [] rfl ?_
    refine VX.meek rfl ?_
    refine VX.nil ?_
    refine VC.condT rfl ?_
    refine VC.regN tab_ok [] rfl ?_
    iterate 4 refine VX.meek rfl ?_
    first | refine VX.meek rfl ?_ | refine VX.loadI rfl rfl au_l ?_ | refine VX.loadP rfl rfl rfl au_l ?_
    refine VX.meek rfl ?_
    refine VX.delete tab_ok rfl rfl rfl rfl rfl rfl rfl (by exact likeF _ _) (keyAt he) ?_
    refine VX.nil ?_
    refine ⟨trivial, _, rfl, rfl, ?_⟩; exact congrArg (fun p => ([.c (tnC m (askT 3 [])), .o (mF m), .o p, .c (encL cRn [])] : Hp)) (delW m.W i)
theorem sized_t (m : Mg) (o : Ot) (top : Int) (ok : m.Ok top) (hc9 : o.code = 9) (hn : 5 ≤ o.n.length) :
    CallT Tryd.prog 62 [.ptr 0 0, otT o] (tnH m (mF m) (mW m) []) (fun t H' => t = .tup [] ∧ H' = tnH (m.sized o.seq o.n[3]! o.n[4]!) (mF (m.sized o.seq o.n[3]! o.n[4]!)) (mW (m.sized o.seq o.n[3]! o.n[4]!)) []) := by
  have hpF := piF m.F
  have hpW := piW m.W
  have hpo := ot_pure o
  have hwt := waiting_t m 85 [.iptr (otC o) 0] (fun k => k.g == o.seq) [] (by simp only [T.pureL, T.pure, encL_pure]; rfl) (fun i j x y hx hy h1 h2 => ok.one o.seq hx hy (by simp at h1; omega) (by simp at h2; omega)) (clo_a o)
  cases h1 : posB m.W (fun k => k.g == o.seq) with
  | none =>
    have hr : m.sized o.seq o.n[3]! o.n[4]! = m := by unfold Mg.sized; rw [h1]
    have hfw : foundW m (fun k => k.g == o.seq) = .tup [I64 0, BL false] := by unfold foundW; rw [h1]
    rw [hfw] at hwt
    rw [hr]
    refine CallT.intro tab_ok Tryd.func62 rfl (by kernel_rfl) (Nat.le_of_ble_eq_true rfl) ?_
    refine VC.reg tab_ok [3] rfl ?_
    refine VX.newI rfl rfl ?_
    refine VX.nil ?_
    refine VC.reg tab_ok [] rfl ?_
    refine VX.meek rfl ?_
    first | refine VX.meek rfl ?_ | refine VX.loadI rfl rfl au_l ?_ | refine VX.loadP rfl rfl rfl au_l ?_
    refine VX.nil ?_
    refine VC.block ?_
    refine VC.reg tab_ok [] rfl ?_
    iterate 2 refine VX.meek rfl ?_
    refine VX.nil ?_
    refine VC.cond rfl (fun hc0 => ?_) (fun hc0 => ?_)
    · (try simp only [au_std] at hc0)
      refine VC.reg tab_ok [] rfl ?_
      iterate 2 refine VX.meek rfl ?_
      refine VX.callT rfl rfl (CallT.frame (hwt) [0, 1, 2, 3] rfl au_ci au_ci ?_)
      rintro _ _ ⟨rfl, rfl⟩
      refine frK au_co au_co ?_
      iterate 5 refine VX.meek rfl ?_
      refine VX.nil ?_
      refine VC.reg tab_ok [] rfl ?_
      refine VX.meek rfl ?_
      refine VX.nil ?_
      refine VC.condF rfl ?_
      refine VC.skip ?_
      exact ⟨trivial, _, rfl, rfl, rfl⟩
    · exact absurd hc0 (by simp [hc9])
  | some i =>
    obtain ⟨⟨id, v⟩, he, -⟩ := posB_some h1
    have hr : m.sized o.seq o.n[3]! o.n[4]! = { m with W := m.W.set i (id, ⟨v.g, o.n[3]! != 0, o.n[3]!, o.n[4]!⟩) } := by unfold Mg.sized; rw [h1]; simp only [getM he]
    have hfw : foundW m (fun k => k.g == o.seq) = .tup [I64 id, BL true] := by unfold foundW; rw [h1]; simp only [getM he]
    have hlw := lookW_some ok.wk he false
    rw [hfw] at hwt
    rw [hr]
    refine CallT.intro tab_ok Tryd.func62 rfl (by kernel_rfl) (Nat.le_of_ble_eq_true rfl) ?_
    refine VC.reg tab_ok [3] rfl ?_
    refine VX.newI rfl rfl ?_
    refine VX.nil ?_
    refine VC.reg tab_ok [] rfl ?_
    refine VX.meek rfl ?_
    first | refine VX.meek rfl ?_ | refine VX.loadI rfl rfl au_l ?_ | refine VX.loadP rfl rfl rfl au_l ?_
    refine VX.nil ?_
    refine VC.block ?_
    refine VC.reg tab_ok [] rfl ?_
    iterate 2 refine VX.meek rfl ?_
    refine VX.nil ?_
    refine VC.cond rfl (fun hc0 => ?_) (fun hc0 => ?_)
    · (try simp only [au_std] at hc0)
      refine VC.reg tab_ok [] rfl ?_
      iterate 2 refine VX.meek rfl ?_
      refine VX.callT rfl rfl (CallT.frame (hwt) [0, 1, 2, 3] rfl au_ci au_ci ?_)
      rintro _ _ ⟨rfl, rfl⟩
      refine frK au_co au_co ?_
      iterate 5 refine VX.meek rfl ?_
      refine VX.nil ?_
      refine VC.reg tab_ok [] rfl ?_
      refine VX.meek rfl ?_
      refine VX.nil ?_
      refine VC.condT rfl ?_
      refine VC.reg tab_ok [] rfl ?_
      iterate 4 refine VX.meek rfl ?_
      first | refine VX.meek rfl ?_ | refine VX.loadI rfl rfl au_l ?_ | refine VX.loadP rfl rfl rfl au_l ?_
      refine VX.meek rfl ?_
      refine VX.lookO tab_ok rfl rfl rfl hlw ?_
      refine VX.new rfl rfl ?_
      refine VX.store rfl rfl rfl rfl rfl au_s rfl ?_
      refine VX.nil ?_
      refine VC.drwS tab_ok [] [_, _, _, _, _, _, _, _, _, _] (_) rfl (by kernel_rfl) (by kernel_rfl) (by kernel_rfl) (seen_kill (b := 4) (seen_refl _) (Nat.le_of_ble_eq_true rfl)) ?_
      refine VS.seg (l1 := [_, _, _, _, _, _, _, _, _]) rfl ?_
      refine VX.meek rfl ?_
      first | refine VX.meek rfl ?_ | refine VX.loadI rfl rfl au_l ?_ | refine VX.loadP rfl rfl rfl au_l ?_
      first | refine VX.idxI rfl rfl rfl rfl rfl rfl (by omega) ?_ | refine VX.idxO0 rfl rfl rfl rfl rfl rfl rfl (by omega) ?_ | refine VX.idxO0 rfl rfl rfl rfl rfl rfl au_z (by omega) ?_ | refine VX.idxO rfl rfl rfl rfl rfl rfl rfl (by omega) ?_ | refine VX.idxI rfl rfl rfl rfl rfl au_z (by omega) ?_ | refine VX.idxO rfl rfl rfl rfl rfl rfl au_z (by omega) ?_ | refine VX.meek rfl ?_
      first | refine VX.meek rfl ?_ | refine VX.loadI rfl rfl au_l ?_ | refine VX.loadP rfl rfl rfl au_l ?_
      refine VX.meek rfl ?_
      first | refine VX.meek rfl ?_ | refine VX.loadI rfl rfl au_l ?_ | refine VX.loadP rfl rfl rfl au_l ?_
      first | refine VX.idxI rfl rfl rfl rfl rfl rfl (by omega) ?_ | refine VX.idxO0 rfl rfl rfl rfl rfl rfl rfl (by omega) ?_ | refine VX.idxO0 rfl rfl rfl rfl rfl rfl au_z (by omega) ?_ | refine VX.idxO rfl rfl rfl rfl rfl rfl rfl (by omega) ?_ | refine VX.idxI rfl rfl rfl rfl rfl au_z (by omega) ?_ | refine VX.idxO rfl rfl rfl rfl rfl rfl au_z (by omega) ?_ | refine VX.meek rfl ?_
      first | refine VX.meek rfl ?_ | refine VX.loadI rfl rfl au_l ?_ | refine VX.loadP rfl rfl rfl au_l ?_
      refine VX.meek rfl ?_
      refine VX.nil ?_
      refine VS.sto rfl rfl rfl rfl ?_
      refine VS.nil (⟨rfl, Nat.le_of_ble_eq_true rfl, rfl, trivial⟩) ?_
      refine VX.meek rfl ?_
      refine VX.store rfl rfl rfl rfl rfl au_s rfl ?_
      refine VX.nil ?_
      refine VC.view ([(0, .ptr 0 0), (6, .ptr 4 0)]) ([.c (tnC m (askT 3 [])), .o (mF m), .o (mW m), .c (encL cRn []), .c [I64 v.g, I64 (v.g + 1), BL v.known, I64 o.n[3]!, I64 o.n[4]!]]) [4] rfl (by refine ⟨[some 0, some 1, some 2, some 3, some 4], rfl, by first | trivial | decide, by first | rfl | (simp only [noO, Bool.and_true, Bool.and_eq_true]; first | assumption | (refine ⟨?_, ?_⟩ <;> assumption)) | (simp only [noO, *, Bool.and_true, Bool.true_and, Bool.and_self]; done), ?_, ?_⟩ <;> (repeat' first | exact trivial | exact CvB_n | exact CvB_d | exact CvB_o rfl | refine CvE_app ?_ ?_ | refine CvE_cons rfl ?_ ?_ | refine CvH_cons ?_ ?_ | refine CvB_c rfl ?_ | fail) <;> first | exact au_v | (first | exact CvL.pure rfl | first | exact cv_tn (Cv.om rfl) (Cv.om rfl) (Cv.slc rfl (.inr rfl)) | exact cv_tn (Cv.om rfl) (Cv.om rfl) (Cv.slc rfl (.inl rfl)) | exact CvL.pure (encL_pure _ _) | exact Cv.ptr rfl | exact Cv.fptr ⟨rfl, (by simp)⟩ (CvL.pure rfl))) ?_
      refine VC.reg tab_ok [] rfl ?_
      refine VX.meek rfl ?_
      first | refine VX.meek rfl ?_ | refine VX.loadI rfl rfl au_l ?_ | refine VX.loadP rfl rfl rfl au_l ?_
      iterate 2 refine VX.meek rfl ?_
      refine VX.store rfl rfl rfl rfl rfl au_s rfl ?_
      refine VX.nil ?_
      refine VC.view ([(0, .ptr 0 0), (6, .iptr (wtC ⟨v.g, o.n[3]! != 0, o.n[3]!, o.n[4]!⟩) 0)]) (tnH m (mF m) (mW m) []) [4] rfl (by refine ⟨[some 0, some 1, some 2, some 3], rfl, by first | trivial | decide, by first | rfl | (simp only [noO, Bool.and_true, Bool.and_eq_true]; first | assumption | (refine ⟨?_, ?_⟩ <;> assumption)) | (simp only [noO, *, Bool.and_true, Bool.true_and, Bool.and_self]; done), ?_, ?_⟩ <;> (repeat' first | exact trivial | exact CvB_n | exact CvB_d | exact CvB_o rfl | refine CvE_app ?_ ?_ | refine CvE_cons rfl ?_ ?_ | refine CvH_cons ?_ ?_ | refine CvB_c rfl ?_ | fail) <;> first | exact au_v | (first | exact cv_tn (Cv.om rfl) (Cv.om rfl) (Cv.slc rfl (.inr rfl)) | exact cv_tn (Cv.om rfl) (Cv.om rfl) (Cv.slc rfl (.inl rfl)) | exact CvL.pure (encL_pure _ _) | exact Cv.ptr rfl | exact Cv.fptr ⟨rfl, (by simp)⟩ (CvL.pure rfl))) ?_
      refine VC.drwN tab_ok [] [_, _, _, _, _, _, _] rfl (by kernel_rfl) (by kernel_rfl) ?_
      iterate 4 refine VX.meek rfl ?_
      first | refine VX.meek rfl ?_ | refine VX.loadI rfl rfl au_l ?_ | refine VX.loadP rfl rfl rfl au_l ?_
      refine VX.meek rfl ?_
      first | refine VX.meek rfl ?_ | refine VX.loadI rfl rfl au_l ?_ | refine VX.loadP rfl rfl rfl au_l ?_
      refine VX.nil ?_
      refine VX.updOld tab_ok rfl rfl rfl rfl rfl rfl rfl rfl (by exact likeF _ _) (keyAt he) ?_
      refine VX.nil ?_
      refine ⟨trivial, _, rfl, rfl, ?_⟩; exact congrArg (fun p => ([.c (tnC m (askT 3 [])), .o (mF m), .o p, .c (encL cRn [])] : Hp)) (setW he)
    · exact absurd hc0 (by simp [hc9])
end
section
open Go.RowKit
set_option maxRecDepth 10000
set_option maxHeartbeats 2000000
theorem up_add (m : Mg) (a b c : Int) (h : a + b = c) : (m.up a).up b = m.up c := by
  subst h
  have : m.cnt + a + b = m.cnt + (a + b) := by omega
  simp only [Mg.up, this]
theorem manage_t (m : Mg) (id : Int) (k : Wt) (row : List Int) (top : Int) (ok : m.Ok top) (htop : top ≤ 1000000) (hF : id ∉ m.F.map Prod.fst) (hw : r32 k.w) (hh : r32 k.h) (hrow : row.length ≤ 100000) :
    CallT Tryd.prog 87 [.ptr 0 0, I64 id, wtT k, cIf row] (tnH m (mF m) (mW m) []) (fun t H' => t = .tup [] ∧ H' = ranH (m.manage id k row).1 (m.manage id k row).2 []) := by
  have hc := ok.cnt
  have hb := ok.base
  have hsd := ok.side
  have hpF := piF m.F
  have hpW := piW m.W
  unfold r32 at hw hh
  cases hk : k.known with
  | false =>
    have hr : m.manage id k row = (m, []) := by unfold Mg.manage; rw [if_pos hk]
    rw [hr]
    refine CallT.intro tab_ok Tryd.func87 rfl (by kernel_rfl) (Nat.le_of_ble_eq_true rfl) ?_
    refine VC.reg tab_ok [6] rfl ?_
    refine VX.newI rfl rfl ?_
    refine VX.nil ?_
    refine VC.seq ?_
    refine VC.reg tab_ok [] rfl ?_
    refine VX.meek rfl ?_
    first | refine VX.meek rfl ?_ | refine VX.loadI rfl rfl au_l ?_ | refine VX.loadP rfl rfl rfl au_l ?_
    refine VX.meek rfl ?_
    refine VX.nil ?_
    refine VC.cond rfl (fun hc0 => ?_) (fun hc0 => ?_)
    · (try simp only [au_std] at hc0)
      refine VC.ret ?_
      exact ⟨trivial, _, rfl, rfl, rfl⟩
    · exact absurd hc0 (by simp [hk])
  | true =>
    by_cases hbig : 126 < k.w ∨ 118 < k.h
    · have hr : m.manage id k row = (m.up 1, [rq 3 [id]]) := by unfold Mg.manage; rw [if_neg (by rw [hk]; simp), if_pos hbig]
      rw [hr]
      have h0 := ask1_t m (mF m) (mW m) 3 id [] (by simp) (by omega) hpF hpW
      refine CallT.intro tab_ok Tryd.func87 rfl (by kernel_rfl) (Nat.le_of_ble_eq_true rfl) ?_
      refine VC.reg tab_ok [6] rfl ?_
      refine VX.newI rfl rfl ?_
      refine VX.nil ?_
      refine VC.seq ?_
      refine VC.reg tab_ok [] rfl ?_
      refine VX.meek rfl ?_
      first | refine VX.meek rfl ?_ | refine VX.loadI rfl rfl au_l ?_ | refine VX.loadP rfl rfl rfl au_l ?_
      refine VX.meek rfl ?_
      refine VX.nil ?_
      refine VC.cond rfl (fun hc0 => ?_) (fun hc0 => ?_)
      · exact absurd hc0 (by simp [hk])
      · (try simp only [au_std] at hc0)
        refine VC.skip ?_
        refine VC.seq ?_
        refine VC.reg tab_ok [] rfl ?_
        refine VX.meek rfl ?_
        first | refine VX.meek rfl ?_ | refine VX.loadI rfl rfl au_l ?_ | refine VX.loadP rfl rfl rfl au_l ?_
        iterate 2 refine VX.meek rfl ?_
        refine' VX.merge (d := 22) [_, _, _, _] rfl ?_ rfl ?_
        rotate_left
        · refine VX.guard rfl rfl (fun hb2_3 => ?_) (fun hb2_3 => ?_)
          · have ghb2_3 := hb2_3
            try simp only [au_std, Bool.not_true, Bool.not_false] at ghb2_3
            refine VX.meek rfl ?_
            refine VX.guardT rfl rfl hb2_3 ?_
            first | refine VX.meek rfl ?_ | refine VX.loadI rfl rfl au_l ?_ | refine VX.loadP rfl rfl rfl au_l ?_
            refine VX.guardT rfl rfl hb2_3 ?_
            refine VX.meek rfl ?_
            refine VX.pickO rfl (fun _ => rfl) ?_
            exact VX.nil ⟨rfl, rfl⟩
          · refine VX.guardF rfl rfl hb2_3 ?_
            refine VX.guardF rfl rfl hb2_3 ?_
            exact VX.pickO rfl (fun h => absurd (h.symm.trans hb2_3) (by decide)) (VX.nil ⟨rfl, rfl⟩)
        refine VX.nil ?_
        refine VC.cond rfl (fun hc1 => ?_) (fun hc1 => ?_)
        · (try simp only [au_std] at hc1)
          refine VC.reg tab_ok [25] rfl ?_
          iterate 2 refine VX.meek rfl ?_
          refine VX.newI rfl rfl ?_
          refine VX.callT rfl rfl (CallT.frame (h0) [0, 1, 2, 3] rfl au_ci au_ci ?_)
          rintro _ _ ⟨rfl, rfl⟩
          refine frK au_co au_co ?_
          refine VX.nil ?_
          refine VC.ret ?_
          exact ⟨trivial, _, rfl, rfl, rfl⟩
        · exact absurd hc1 (by simp; omega)
    · obtain ⟨fr, hfr⟩ : ∃ fr, fr = m.base + 10 + m.made := ⟨_, rfl⟩
      obtain ⟨ttl, httl⟩ : ∃ ttl, ttl = titleL row := ⟨_, rfl⟩
      obtain ⟨W, hW⟩ : ∃ W, W = k.w + 2 := ⟨_, rfl⟩
      obtain ⟨H, hH⟩ : ∃ H, H = k.h + 10 := ⟨_, rfl⟩
      obtain ⟨X, hX⟩ : ∃ X, X = spotX m.made W 0 m.w := ⟨_, rfl⟩
      obtain ⟨Y, hY⟩ : ∃ Y, Y = spotY m.made H 0 m.h := ⟨_, rfl⟩
      obtain ⟨M, hM⟩ : ∃ M : Mg, M = { m with made := m.made + 1 } := ⟨_, rfl⟩
      obtain ⟨p, hpe⟩ : ∃ p, p = mapP (kF (m.F ++ [(id, ⟨fr, k.w, k.h, ttl⟩)])) (tF (m.F ++ [(id, ⟨fr, k.w, k.h, ttl⟩)])) := ⟨_, rfl⟩
      have hp : p.pi = true := by rw [hpe]; exact piF _
      have hMc : M.cnt = m.cnt := by rw [hM]
      have htt := title_p row hrow
      have hfp := frame_p m hb (by omega)
      have hsp := spot_p m.made W H 0 0 m.w m.h (by unfold r32; omega) (by unfold r32; omega) (by unfold r32; omega) (by unfold r32; omega) (by unfold r32; omega) (by unfold r32; omega)
      have hadd := addF m.F id ⟨fr, k.w, k.h, ttl⟩
      rw [← hpe] at hadd
      rw [← httl] at htt
      rw [← hfr] at hfp
      rw [← hX, ← hY] at hsp
      obtain ⟨R0, hR0⟩ : ∃ R, R = rq 1 [fr, 1, X, Y, W, H, 200, 1, 1] := ⟨_, rfl⟩
      have h0 : CallT Tryd.prog 54 [.ptr 0 0, I64 1, .islc [I64 fr, I64 1, I64 X, I64 Y, I64 W, I64 H, I64 200, I64 1, I64 1] 9 (some 9)] (tnH M p (mW m) []) (fun t H' => t = .tup [] ∧ H' = tnH1 (M.up 1) p (mW m) [R0]) := by
        have := ask9_t M p (mW m) 1 fr 1 X Y W H 200 1 1 [] (by simp) (by show 0 ≤ M.cnt ∧ M.cnt ≤ 2000000; omega) hp hpW
        rw [← hR0] at this
        exact this
      obtain ⟨R1, hR1⟩ : ∃ R, R = rq 7 [fr, 32, 0, 0, 0, 0, 0, 3356] := ⟨_, rfl⟩
      have h1 : CallT Tryd.prog 54 [.ptr 0 0, I64 7, .islc [I64 fr, I64 32, I64 0, I64 0, I64 0, I64 0, I64 0, I64 3356] 8 (some 8)] (tnH (M.up 1) p (mW m) [R0]) (fun t H' => t = .tup [] ∧ H' = tnH1 (M.up 2) p (mW m) [R0, R1]) := by
        have := ask8_t (M.up 1) p (mW m) 7 fr 32 0 0 0 0 0 3356 [R0] (by simp) (by show 0 ≤ M.cnt + 1 ∧ M.cnt + 1 ≤ 2000000; omega) hp hpW
        rw [up_add M 1 1 2 (by decide), ← hR1] at this
        exact this
      obtain ⟨R2, hR2⟩ : ∃ R, R = rq 54 [id, 1] := ⟨_, rfl⟩
      have h2 : CallT Tryd.prog 54 [.ptr 0 0, I64 54, .islc [I64 id, I64 1] 2 (some 2)] (tnH (M.up 2) p (mW m) [R0, R1]) (fun t H' => t = .tup [] ∧ H' = tnH1 (M.up 3) p (mW m) [R0, R1, R2]) := by
        have := ask2_t (M.up 2) p (mW m) 54 id 1 [R0, R1] (by simp) (by show 0 ≤ M.cnt + 2 ∧ M.cnt + 2 ≤ 2000000; omega) hp hpW
        rw [up_add M 2 1 3 (by decide), ← hR2] at this
        exact this
      obtain ⟨R3, hR3⟩ : ∃ R, R = rq 6 [id, fr, 1, 9] := ⟨_, rfl⟩
      have h3 : CallT Tryd.prog 54 [.ptr 0 0, I64 6, .islc [I64 id, I64 fr, I64 1, I64 9] 4 (some 4)] (tnH (M.up 3) p (mW m) [R0, R1, R2]) (fun t H' => t = .tup [] ∧ H' = tnH1 (M.up 4) p (mW m) [R0, R1, R2, R3]) := by
        have := ask4_t (M.up 3) p (mW m) 6 id fr 1 9 [R0, R1, R2] (by simp) (by show 0 ≤ M.cnt + 3 ∧ M.cnt + 3 ≤ 2000000; omega) hp hpW
        rw [up_add M 3 1 4 (by decide), ← hR3] at this
        exact this
      obtain ⟨R4, hR4⟩ : ∃ R, R = rq 3 [id] := ⟨_, rfl⟩
      have h4 : CallT Tryd.prog 54 [.ptr 0 0, I64 3, .islc [I64 id] 1 (some 1)] (tnH (M.up 4) p (mW m) [R0, R1, R2, R3]) (fun t H' => t = .tup [] ∧ H' = tnH1 (M.up 5) p (mW m) [R0, R1, R2, R3, R4]) := by
        have := ask1_t (M.up 4) p (mW m) 3 id [R0, R1, R2, R3] (by simp) (by show 0 ≤ M.cnt + 4 ∧ M.cnt + 4 ≤ 2000000; omega) hp hpW
        rw [up_add M 4 1 5 (by decide), ← hR4] at this
        exact this
      obtain ⟨R5, hR5⟩ : ∃ R, R = rq 3 [fr] := ⟨_, rfl⟩
      have h5 : CallT Tryd.prog 54 [.ptr 0 0, I64 3, .islc [I64 fr] 1 (some 1)] (tnH (M.up 5) p (mW m) [R0, R1, R2, R3, R4]) (fun t H' => t = .tup [] ∧ H' = tnH1 (M.up 6) p (mW m) [R0, R1, R2, R3, R4, R5]) := by
        have := ask1_t (M.up 5) p (mW m) 3 fr [R0, R1, R2, R3, R4] (by simp) (by show 0 ≤ M.cnt + 5 ∧ M.cnt + 5 ≤ 2000000; omega) hp hpW
        rw [up_add M 5 1 6 (by decide), ← hR5] at this
        exact this
      have h6 : CallT Tryd.prog 124 [.ptr 0 0, frT ⟨fr, k.w, k.h, ttl⟩] (tnH (M.up 6) p (mW m) [R0, R1, R2, R3, R4, R5]) (fun t H' => t = .tup [] ∧ H' = tnH1 (M.up 7) p (mW m) [R0, R1, R2, R3, R4, R5, m.draw ⟨fr, k.w, k.h, ttl⟩]) := by
        have := draw_t (M.up 6) p (mW m) ⟨fr, k.w, k.h, ttl⟩ [R0, R1, R2, R3, R4, R5] (by simp) (by show 0 ≤ M.cnt + 6 ∧ M.cnt + 6 ≤ 2000000; omega) (by show 1048576 ≤ M.base ∧ M.base ≤ 8388608; rw [hM]; exact hb) hp hpW
        rw [up_add M 6 1 7 (by decide), show (M.up 6).draw ⟨fr, k.w, k.h, ttl⟩ = m.draw ⟨fr, k.w, k.h, ttl⟩ from by rw [hM]; rfl] at this
        exact this
      have hr : m.manage id k row = ({ M.up 7 with F := m.F ++ [(id, ⟨fr, k.w, k.h, ttl⟩)] }, [R0, R1, R2, R3, R4, R5, m.draw ⟨fr, k.w, k.h, ttl⟩]) := by
        unfold Mg.manage
        rw [if_neg (by rw [hk]; simp), if_neg hbig, hR0, hR1, hR2, hR3, hR4, hR5, hX, hY, hW, hH, hfr, httl, hM]
      have hMi : ∀ a : T, tnC M a = [.v (.int .u32 m.base), I64 m.cnt, I64 (m.made + 1), I64 m.w, I64 m.h, .om 1, .om 2, BL m.on, I64 m.df, I64 m.dx, I64 m.dy, a] := fun a => by rw [hM]
      have hMW : M.W = m.W := by rw [hM]
      rw [hr]
      refine CallT.intro tab_ok Tryd.func87 rfl (by kernel_rfl) (Nat.le_of_ble_eq_true rfl) ?_
      refine VC.reg tab_ok [6] rfl ?_
      refine VX.newI rfl rfl ?_
      refine VX.nil ?_
      refine VC.seq ?_
      refine VC.reg tab_ok [] rfl ?_
      refine VX.meek rfl ?_
      first | refine VX.meek rfl ?_ | refine VX.loadI rfl rfl au_l ?_ | refine VX.loadP rfl rfl rfl au_l ?_
      refine VX.meek rfl ?_
      refine VX.nil ?_
      refine VC.cond rfl (fun hc0 => ?_) (fun hc0 => ?_)
      · exact absurd hc0 (by simp [hk])
      · (try simp only [au_std] at hc0)
        refine VC.skip ?_
        refine VC.seq ?_
        refine VC.reg tab_ok [] rfl ?_
        refine VX.meek rfl ?_
        first | refine VX.meek rfl ?_ | refine VX.loadI rfl rfl au_l ?_ | refine VX.loadP rfl rfl rfl au_l ?_
        iterate 2 refine VX.meek rfl ?_
        refine' VX.merge (d := 22) [_, _, _, _] rfl ?_ rfl ?_
        rotate_left
        · refine VX.guard rfl rfl (fun hb2_3 => ?_) (fun hb2_3 => ?_)
          · have ghb2_3 := hb2_3
            try simp only [au_std, Bool.not_true, Bool.not_false] at ghb2_3
            refine VX.meek rfl ?_
            refine VX.guardT rfl rfl hb2_3 ?_
            first | refine VX.meek rfl ?_ | refine VX.loadI rfl rfl au_l ?_ | refine VX.loadP rfl rfl rfl au_l ?_
            refine VX.guardT rfl rfl hb2_3 ?_
            refine VX.meek rfl ?_
            refine VX.pickO rfl (fun _ => rfl) ?_
            exact VX.nil ⟨rfl, rfl⟩
          · refine VX.guardF rfl rfl hb2_3 ?_
            refine VX.guardF rfl rfl hb2_3 ?_
            exact VX.pickO rfl (fun h => absurd (h.symm.trans hb2_3) (by decide)) (VX.nil ⟨rfl, rfl⟩)
        refine VX.nil ?_
        refine VC.cond rfl (fun hc1 => ?_) (fun hc1 => ?_)
        · exact absurd hc1 (by simp; omega)
        · (try simp only [au_std] at hc1)
          refine VC.skip ?_
          refine VC.drw tab_ok [] [_, _, _, _, _, _, _, _, _, _, _, _, _, _] rfl (by kernel_rfl) (by kernel_rfl) ?_
          iterate 4 refine VX.meek rfl ?_
          first | refine VX.meek rfl ?_ | refine VX.loadI rfl rfl au_l ?_ | refine VX.loadP rfl rfl rfl au_l ?_
          refine VX.callP0 rfl rfl rfl (hfp) ?_
          refine VX.meek rfl ?_
          first | refine VX.meek rfl ?_ | refine VX.loadI rfl rfl au_l ?_ | refine VX.loadP rfl rfl rfl au_l ?_
          refine VX.meek rfl ?_
          first | refine VX.meek rfl ?_ | refine VX.loadI rfl rfl au_l ?_ | refine VX.loadP rfl rfl rfl au_l ?_
          refine VX.meek rfl ?_
          refine VX.callP0 rfl rfl rfl (htt) ?_
          refine VX.meek rfl ?_
          refine VX.new rfl rfl ?_
          refine VX.nil ?_
          refine VX.store rfl rfl rfl rfl rfl au_s rfl ?_
          refine VX.nil ?_
          refine VC.view ([(0, .ptr 0 0), (8, .iptr (frC ⟨fr, k.w, k.h, ttl⟩) 0)]) (tnH m (mF m) (mW m) []) [1, 6] rfl (by refine ⟨[some 0, some 1, some 2, some 3], rfl, by first | trivial | decide, by first | rfl | (simp only [noO, Bool.and_true, Bool.and_eq_true]; first | assumption | (refine ⟨?_, ?_⟩ <;> assumption)) | (simp only [noO, *, Bool.and_true, Bool.true_and, Bool.and_self]; done), ?_, ?_⟩ <;> (repeat' first | exact trivial | exact CvB_n | exact CvB_d | exact CvB_o rfl | refine CvE_app ?_ ?_ | refine CvE_cons rfl ?_ ?_ | refine CvH_cons ?_ ?_ | refine CvB_c rfl ?_ | fail) <;> first | exact au_v | (first | exact cv_tn (Cv.om rfl) (Cv.om rfl) (Cv.slc rfl (.inr rfl)) | exact cv_tn (Cv.om rfl) (Cv.om rfl) (Cv.slc rfl (.inl rfl)) | exact CvL.pure (encL_pure _ _) | exact Cv.ptr rfl | exact Cv.fptr ⟨rfl, (by simp)⟩ (CvL.pure rfl))) ?_
          refine VC.drw tab_ok [] [_, _, _, _, _, _, _, _] rfl (by kernel_rfl) (by kernel_rfl) ?_
          refine VX.meek rfl ?_
          first | refine VX.meek rfl ?_ | refine VX.loadI rfl rfl au_l ?_ | refine VX.loadP rfl rfl rfl au_l ?_
          refine VX.add rfl rfl (by omega) ?_; rw [← hW]
          refine VX.meek rfl ?_
          first | refine VX.meek rfl ?_ | refine VX.loadI rfl rfl au_l ?_ | refine VX.loadP rfl rfl rfl au_l ?_
          refine VX.add rfl rfl (by omega) ?_; rw [← hH]
          iterate 2 refine VX.meek rfl ?_
          refine VX.nil ?_
          refine VX.nil ?_
          refine VC.drw tab_ok [] [_, _, _, _, _, _, _, _, _, _, _, _, _, _, _, _, _, _, _, _, _] rfl (by kernel_rfl) (by kernel_rfl) ?_
          iterate 5 refine VX.meek rfl ?_
          first | refine VX.meek rfl ?_ | refine VX.loadI rfl rfl au_l ?_ | refine VX.loadP rfl rfl rfl au_l ?_
          iterate 6 refine VX.meek rfl ?_
          first | refine VX.meek rfl ?_ | refine VX.loadI rfl rfl au_l ?_ | refine VX.loadP rfl rfl rfl au_l ?_
          iterate 4 refine VX.meek rfl ?_
          first | refine VX.meek rfl ?_ | refine VX.loadI rfl rfl au_l ?_ | refine VX.loadP rfl rfl rfl au_l ?_
          refine VX.meek rfl ?_
          refine VX.callP0 rfl rfl rfl (hsp) ?_
          refine VX.new rfl rfl ?_
          refine VX.nil ?_
          refine VX.store rfl rfl rfl rfl rfl au_s rfl ?_
          refine VX.nil ?_
          refine VC.view ([(0, .ptr 0 0), (11, .iptr [I64 X, I64 Y] 0)]) (tnH m (mF m) (mW m) []) [1, 8, 9, 10] rfl (by refine ⟨[some 0, some 1, some 2, some 3], rfl, by first | trivial | decide, by first | rfl | (simp only [noO, Bool.and_true, Bool.and_eq_true]; first | assumption | (refine ⟨?_, ?_⟩ <;> assumption)) | (simp only [noO, *, Bool.and_true, Bool.true_and, Bool.and_self]; done), ?_, ?_⟩ <;> (repeat' first | exact trivial | exact CvB_n | exact CvB_d | exact CvB_o rfl | refine CvE_app ?_ ?_ | refine CvE_cons rfl ?_ ?_ | refine CvH_cons ?_ ?_ | refine CvB_c rfl ?_ | fail) <;> first | exact au_v | (first | exact cv_tn (Cv.om rfl) (Cv.om rfl) (Cv.slc rfl (.inr rfl)) | exact cv_tn (Cv.om rfl) (Cv.om rfl) (Cv.slc rfl (.inl rfl)) | exact CvL.pure (encL_pure _ _) | exact Cv.ptr rfl | exact Cv.fptr ⟨rfl, (by simp)⟩ (CvL.pure rfl))) ?_
          refine VC.reg tab_ok [] rfl ?_
          iterate 5 refine VX.meek rfl ?_
          first | refine VX.meek rfl ?_ | refine VX.loadI rfl rfl au_l ?_ | refine VX.loadP rfl rfl rfl au_l ?_
          first | refine VX.add rfl rfl (by omega) ?_ | refine VX.meek rfl ?_
          iterate 4 refine VX.meek rfl ?_
          refine VX.store rfl rfl rfl rfl rfl au_s rfl ?_
          refine VX.nil ?_
          refine VC.drw tab_ok [] [_, _, _, _, _, _, _] rfl (by kernel_rfl) (by kernel_rfl) ?_
          iterate 4 refine VX.meek rfl ?_
          first | refine VX.meek rfl ?_ | refine VX.loadI rfl rfl au_l ?_ | refine VX.loadP rfl rfl rfl au_l ?_
          refine VX.meek rfl ?_
          first | refine VX.meek rfl ?_ | refine VX.loadI rfl rfl au_l ?_ | refine VX.loadP rfl rfl rfl au_l ?_
          refine VX.nil ?_
          refine VX.updNew tab_ok rfl rfl rfl rfl rfl rfl rfl (show _ = some (frT ⟨fr, k.w, k.h, ttl⟩) from rfl) (by exact likeF _ _) (keyNew hF) ?_; rw [hadd]
          refine VX.nil ?_
          refine VC.view ([(0, .ptr 0 0)]) (tnH M p (mW m) []) [1, 8, 9, 10, 11] rfl (by refine ⟨[some 0, some 1, some 2, some 3], rfl, by first | trivial | decide, by first | rfl | (simp only [noO, Bool.and_true, Bool.and_eq_true]; first | assumption | (refine ⟨?_, ?_⟩ <;> assumption)) | (simp only [noO, *, Bool.and_true, Bool.true_and, Bool.and_self]; done), ?_, ?_⟩ <;> (repeat' first | exact trivial | exact CvB_n | exact CvB_d | exact CvB_o rfl | refine CvE_app ?_ ?_ | refine CvE_cons rfl ?_ ?_ | refine CvH_cons ?_ ?_ | refine CvB_c rfl ?_ | fail) <;> first | exact au_v | (first | (rw [hM]; exact cv_tn (m := { m with made := m.made + 1 }) (Cv.om rfl) (Cv.om rfl) (Cv.slc rfl (.inl rfl))) | first | exact cv_tn (Cv.om rfl) (Cv.om rfl) (Cv.slc rfl (.inr rfl)) | exact cv_tn (Cv.om rfl) (Cv.om rfl) (Cv.slc rfl (.inl rfl)) | exact CvL.pure (encL_pure _ _) | exact Cv.ptr rfl | exact Cv.fptr ⟨rfl, (by simp)⟩ (CvL.pure rfl))) ?_
          refine VC.reg tab_ok [93] rfl ?_
          iterate 2 refine VX.meek rfl ?_
          first | refine VX.meek rfl ?_ | refine VX.loadI rfl rfl au_l ?_ | refine VX.loadP rfl rfl rfl au_l ?_
          refine VX.meek rfl ?_
          first | refine VX.meek rfl ?_ | refine VX.loadI rfl rfl au_l ?_ | refine VX.loadP rfl rfl rfl au_l ?_
          refine VX.meek rfl ?_
          first | refine VX.meek rfl ?_ | refine VX.loadI rfl rfl au_l ?_ | refine VX.loadP rfl rfl rfl au_l ?_
          iterate 2 refine VX.meek rfl ?_
          refine VX.newI (t := .slc 4 0 9 1 (some 9)) (e := 2) (cs := [I64 fr, I64 1, I64 X, I64 Y, I64 W, I64 H, I64 200, I64 1, I64 1]) rfl (by kernel_rfl) ?_
          refine VX.callT rfl rfl (CallT.frame (h0) [0, 1, 2, 3] rfl au_ci au_ci ?_)
          rintro _ _ ⟨rfl, rfl⟩
          refine frK au_co au_co ?_
          refine VX.nil ?_
          refine VC.view ([(0, .ptr 0 0)]) (tnH1 (M.up 1) p (mW m) [R0]) [1, 8] rfl (by refine ⟨[some 0, some 1, some 2, some 3, some 4], rfl, by first | trivial | decide, by first | rfl | (simp only [noO, Bool.and_true, Bool.and_eq_true]; first | assumption | (refine ⟨?_, ?_⟩ <;> assumption)) | (simp only [noO, *, Bool.and_true, Bool.true_and, Bool.and_self]; done), ?_, ?_⟩ <;> (repeat' first | exact trivial | exact CvB_n | exact CvB_d | exact CvB_o rfl | refine CvE_app ?_ ?_ | refine CvE_cons rfl ?_ ?_ | refine CvH_cons ?_ ?_ | refine CvB_c rfl ?_ | fail) <;> first | exact au_v | (first | exact cv_tn (Cv.om rfl) (Cv.om rfl) (Cv.slc rfl (.inr rfl)) | exact cv_tn (Cv.om rfl) (Cv.om rfl) (Cv.slc rfl (.inl rfl)) | exact CvL.pure (encL_pure _ _) | exact Cv.ptr rfl | exact Cv.fptr ⟨rfl, (by simp)⟩ (CvL.pure rfl))) ?_
          refine VC.reg tab_ok [98] rfl ?_
          iterate 2 refine VX.meek rfl ?_
          first | refine VX.meek rfl ?_ | refine VX.loadI rfl rfl au_l ?_ | refine VX.loadP rfl rfl rfl au_l ?_
          refine VX.newI (t := .slc 5 0 8 1 (some 8)) (e := 2) (cs := [I64 fr, I64 32, I64 0, I64 0, I64 0, I64 0, I64 0, I64 3356]) rfl (by kernel_rfl) ?_
          refine VX.callT rfl rfl (CallT.frame (h1) [0, 1, 2, 4] rfl au_ci au_ci ?_)
          rintro _ _ ⟨rfl, rfl⟩
          refine frK au_co au_co ?_
          refine VX.nil ?_
          refine VC.view ([(0, .ptr 0 0)]) (tnH1 (M.up 2) p (mW m) [R0, R1]) [1, 8] rfl (by refine ⟨[some 0, some 1, some 2, some 3, some 5], rfl, by first | trivial | decide, by first | rfl | (simp only [noO, Bool.and_true, Bool.and_eq_true]; first | assumption | (refine ⟨?_, ?_⟩ <;> assumption)) | (simp only [noO, *, Bool.and_true, Bool.true_and, Bool.and_self]; done), ?_, ?_⟩ <;> (repeat' first | exact trivial | exact CvB_n | exact CvB_d | exact CvB_o rfl | refine CvE_app ?_ ?_ | refine CvE_cons rfl ?_ ?_ | refine CvH_cons ?_ ?_ | refine CvB_c rfl ?_ | fail) <;> first | exact au_v | (first | exact cv_tn (Cv.om rfl) (Cv.om rfl) (Cv.slc rfl (.inr rfl)) | exact cv_tn (Cv.om rfl) (Cv.om rfl) (Cv.slc rfl (.inl rfl)) | exact CvL.pure (encL_pure _ _) | exact Cv.ptr rfl | exact Cv.fptr ⟨rfl, (by simp)⟩ (CvL.pure rfl))) ?_
          refine VC.reg tab_ok [102] rfl ?_
          iterate 2 refine VX.meek rfl ?_
          refine VX.newI rfl rfl ?_
          refine VX.callT rfl rfl (CallT.frame (h2) [0, 1, 2, 4] rfl au_ci au_ci ?_)
          rintro _ _ ⟨rfl, rfl⟩
          refine frK au_co au_co ?_
          refine VX.nil ?_
          refine VC.view ([(0, .ptr 0 0)]) (tnH1 (M.up 3) p (mW m) [R0, R1, R2]) [1, 8] rfl (by refine ⟨[some 0, some 1, some 2, some 3, some 5], rfl, by first | trivial | decide, by first | rfl | (simp only [noO, Bool.and_true, Bool.and_eq_true]; first | assumption | (refine ⟨?_, ?_⟩ <;> assumption)) | (simp only [noO, *, Bool.and_true, Bool.true_and, Bool.and_self]; done), ?_, ?_⟩ <;> (repeat' first | exact trivial | exact CvB_n | exact CvB_d | exact CvB_o rfl | refine CvE_app ?_ ?_ | refine CvE_cons rfl ?_ ?_ | refine CvH_cons ?_ ?_ | refine CvB_c rfl ?_ | fail) <;> first | exact au_v | (first | exact cv_tn (Cv.om rfl) (Cv.om rfl) (Cv.slc rfl (.inr rfl)) | exact cv_tn (Cv.om rfl) (Cv.om rfl) (Cv.slc rfl (.inl rfl)) | exact CvL.pure (encL_pure _ _) | exact Cv.ptr rfl | exact Cv.fptr ⟨rfl, (by simp)⟩ (CvL.pure rfl))) ?_
          refine VC.reg tab_ok [108] rfl ?_
          iterate 3 refine VX.meek rfl ?_
          first | refine VX.meek rfl ?_ | refine VX.loadI rfl rfl au_l ?_ | refine VX.loadP rfl rfl rfl au_l ?_
          refine VX.newI (t := .slc 5 0 4 1 (some 4)) (e := 2) (cs := [I64 id, I64 fr, I64 1, I64 9]) rfl (by kernel_rfl) ?_
          refine VX.callT rfl rfl (CallT.frame (h3) [0, 1, 2, 4] rfl au_ci au_ci ?_)
          rintro _ _ ⟨rfl, rfl⟩
          refine frK au_co au_co ?_
          refine VX.nil ?_
          refine VC.view ([(0, .ptr 0 0)]) (tnH1 (M.up 4) p (mW m) [R0, R1, R2, R3]) [1, 8] rfl (by refine ⟨[some 0, some 1, some 2, some 3, some 5], rfl, by first | trivial | decide, by first | rfl | (simp only [noO, Bool.and_true, Bool.and_eq_true]; first | assumption | (refine ⟨?_, ?_⟩ <;> assumption)) | (simp only [noO, *, Bool.and_true, Bool.true_and, Bool.and_self]; done), ?_, ?_⟩ <;> (repeat' first | exact trivial | exact CvB_n | exact CvB_d | exact CvB_o rfl | refine CvE_app ?_ ?_ | refine CvE_cons rfl ?_ ?_ | refine CvH_cons ?_ ?_ | refine CvB_c rfl ?_ | fail) <;> first | exact au_v | (first | exact cv_tn (Cv.om rfl) (Cv.om rfl) (Cv.slc rfl (.inr rfl)) | exact cv_tn (Cv.om rfl) (Cv.om rfl) (Cv.slc rfl (.inl rfl)) | exact CvL.pure (encL_pure _ _) | exact Cv.ptr rfl | exact Cv.fptr ⟨rfl, (by simp)⟩ (CvL.pure rfl))) ?_
          refine VC.reg tab_ok [112] rfl ?_
          iterate 2 refine VX.meek rfl ?_
          refine VX.newI rfl rfl ?_
          refine VX.callT rfl rfl (CallT.frame (h4) [0, 1, 2, 4] rfl au_ci au_ci ?_)
          rintro _ _ ⟨rfl, rfl⟩
          refine frK au_co au_co ?_
          refine VX.nil ?_
          refine VC.view ([(0, .ptr 0 0)]) (tnH1 (M.up 5) p (mW m) [R0, R1, R2, R3, R4]) [8] rfl (by refine ⟨[some 0, some 1, some 2, some 3, some 5], rfl, by first | trivial | decide, by first | rfl | (simp only [noO, Bool.and_true, Bool.and_eq_true]; first | assumption | (refine ⟨?_, ?_⟩ <;> assumption)) | (simp only [noO, *, Bool.and_true, Bool.true_and, Bool.and_self]; done), ?_, ?_⟩ <;> (repeat' first | exact trivial | exact CvB_n | exact CvB_d | exact CvB_o rfl | refine CvE_app ?_ ?_ | refine CvE_cons rfl ?_ ?_ | refine CvH_cons ?_ ?_ | refine CvB_c rfl ?_ | fail) <;> first | exact au_v | (first | exact cv_tn (Cv.om rfl) (Cv.om rfl) (Cv.slc rfl (.inr rfl)) | exact cv_tn (Cv.om rfl) (Cv.om rfl) (Cv.slc rfl (.inl rfl)) | exact CvL.pure (encL_pure _ _) | exact Cv.ptr rfl | exact Cv.fptr ⟨rfl, (by simp)⟩ (CvL.pure rfl))) ?_
          refine VC.reg tab_ok [117] rfl ?_
          iterate 2 refine VX.meek rfl ?_
          first | refine VX.meek rfl ?_ | refine VX.loadI rfl rfl au_l ?_ | refine VX.loadP rfl rfl rfl au_l ?_
          refine VX.newI rfl rfl ?_
          refine VX.callT rfl rfl (CallT.frame (h5) [0, 1, 2, 4] rfl au_ci au_ci ?_)
          rintro _ _ ⟨rfl, rfl⟩
          refine frK au_co au_co ?_
          refine VX.nil ?_
          refine VC.view ([(0, .ptr 0 0)]) (tnH1 (M.up 6) p (mW m) [R0, R1, R2, R3, R4, R5]) [8] rfl (by refine ⟨[some 0, some 1, some 2, some 3, some 5], rfl, by first | trivial | decide, by first | rfl | (simp only [noO, Bool.and_true, Bool.and_eq_true]; first | assumption | (refine ⟨?_, ?_⟩ <;> assumption)) | (simp only [noO, *, Bool.and_true, Bool.true_and, Bool.and_self]; done), ?_, ?_⟩ <;> (repeat' first | exact trivial | exact CvB_n | exact CvB_d | exact CvB_o rfl | refine CvE_app ?_ ?_ | refine CvE_cons rfl ?_ ?_ | refine CvH_cons ?_ ?_ | refine CvB_c rfl ?_ | fail) <;> first | exact au_v | (first | exact cv_tn (Cv.om rfl) (Cv.om rfl) (Cv.slc rfl (.inr rfl)) | exact cv_tn (Cv.om rfl) (Cv.om rfl) (Cv.slc rfl (.inl rfl)) | exact CvL.pure (encL_pure _ _) | exact Cv.ptr rfl | exact Cv.fptr ⟨rfl, (by simp)⟩ (CvL.pure rfl))) ?_
          refine VC.regN tab_ok [] rfl ?_
          refine VX.meek rfl ?_
          first | refine VX.meek rfl ?_ | refine VX.loadI rfl rfl au_l ?_ | refine VX.loadP rfl rfl rfl au_l ?_
          refine VX.callT rfl rfl (CallT.frame (h6) [0, 1, 2, 4] rfl au_ci au_ci ?_)
          rintro _ _ ⟨rfl, rfl⟩
          refine frK au_co au_co ?_
          refine VX.nil ?_
          refine ⟨trivial, _, rfl, rfl, ?_⟩; show [Blk.c (tnC (M.up 7) (askT 5 [R0, R1, R2, R3, R4, R5, m.draw ⟨fr, k.w, k.h, ttl⟩])), .o p, .o (mW m), .d, .d, .c (encL cRn [R0, R1, R2, R3, R4, R5, m.draw ⟨fr, k.w, k.h, ttl⟩])] = _; rw [hpe]; unfold ranH; rw [hM]; rfl
end
end Go.Proofs.YtjnomaiejmgedaaDoor
