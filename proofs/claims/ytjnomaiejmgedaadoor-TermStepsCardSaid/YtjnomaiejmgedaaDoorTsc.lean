/-
  The proof's lemmas, part 3.
-/
import Derived.Test.YtjnomaiejmgedaaDoorTsb
import Derived.ChangeSlices
import Derived.ProofKit
import Derived.OpenShut
import Derived.Test.YtjnomaiejmgedaaDoorProg
import Derived.KernelRfl
namespace Go.Proofs.YtjnomaiejmgedaaDoor
set_option linter.unusedSimpArgs false
set_option linter.unusedVariables false
section
open Go.RowKit
def seenL (Hm F : Hp) : Prop := Hm.length ≤ F.length ∧ ∀ b, blkH Hm b ≠ .d → blkH Hm b = blkH F b
def WrOp [Dr] (P : Program) (tab : Tab) (o : Oper) (E : Env) (F F1 : Hp) (t : T) : Prop :=
  (∃ f args ats g us vs ts, o.op = .call ⟨.value f, args, ats⟩ ∧ E.opd f = some (.clo g us vs) ∧ optL E.opd args.toList = some ts ∧ CallT P g (us ++ ts ++ vs) F (fun u H' => u = t ∧ H' = F1)) ∨
  (∃ x y t1 t2 ta tb, o.op = .call ⟨.builtin .append, #[x, y], #[t1, t2]⟩ ∧ E.opd x = some ta ∧ E.opd y = some tb ∧ mAppend tab F t1 t2 ta tb = some (t, F1))
inductive RunC [Dr] (P : Program) (tab : Tab) (im : List Nat) (ops : Array Oper) (Hm : Hp) : List Oper → Env → Hp → List Stp → List Hp → List Bool → Env → Hp → Prop
  | nil (E : Env) (F : Hp) : RunC P tab im ops Hm [] E F [] [] [] E F
  | one {o : Oper} {l : List Oper} {E : Env} {F : Hp} {s : Stp} {r : List Stp} {fs : List Hp} {ws : List Bool} {E' : Env} {F' : Hp} (h : StpOk P tab im ops o E Hm s) (hn : s.nb = none)
      (k : RunC P tab im ops Hm l (E.put o.dst s.t) F r fs ws E' F') : RunC P tab im ops Hm (o :: l) E F (s :: r) fs (false :: ws) E' F'
  | call {o : Oper} {l : List Oper} {E : Env} {F F1 : Hp} {t : T} {r : List Stp} {fs : List Hp} {ws : List Bool} {E' : Env} {F' : Hp} (hg : o.guard = none) (ho : WrOp P tab o E F F1 t)
      (hs : seenL Hm F1) (k : RunC P tab im ops Hm l (E.put o.dst t) F1 r fs ws E' F') : RunC P tab im ops Hm (o :: l) E F (⟨t, none⟩ :: r) (F1 :: fs) (true :: ws) E' F'
def cntB (ws : List Bool) (k : Nat) : Nat := (ws.take k).countP (fun x => x)
def StpC [Dr] (P : Program) (tab : Tab) (im : List Nat) (ops : Array Oper) (Hm : Hp) (o : Oper) (E : Env) (F F1 : Hp) (s : Stp) : Bool → Prop
  | false => StpOk P tab im ops o E Hm s
  | true => o.guard = none ∧ WrOp P tab o E F F1 s.t
section
variable {z : Bool} {P : Program} {tab : Tab} {n m kb lb : Nat} {l : List Oper} {E : Env} {Hm : Hp} {Fs : List Hp} {r : List Stp} {ws : List Bool} {X0 : Nat → Prop} {M0 : Mp} {im : List Nat}
structure JdC (n kb : Nat) (pre : List Oper) (r : List Stp) (Fs : List Hp) (ws : List Bool) (E : Env) (X0 : Nat → Prop) (j : Nat) (L : Nat → Prop) (a : Act) (M : Mp) : Prop where
  sim : ∃ G, Fs[j]? = some G ∧ SimH G X0 M
  slot : ∀ k o s d, pre[k]? = some o → r[k]? = some s → L k → o.dst = some d → ∃ u, a.tmps[d]? = some u ∧ Rep M s.t u
  old : ∀ d t, E.get d = some t → (∀ k o, pre[k]? = some o → L k → o.dst ≠ some d) → ∃ u, a.tmps[d]? = some u ∧ Rep M t u
  sz : a.tmps.size = n
  df : Marks kb a.defers M
  ge : kb ≤ M.w.heap.size
  cnt : ∀ k, ws[k]? = some true → (L k ↔ cntB ws k < j)
structure RunCF [Dr] (P : Program) (tab : Tab) (im : List Nat) (l : List Oper) (m : Nat) (E : Env) (Hm : Hp) (r : List Stp) (Fs : List Hp) (ws : List Bool) : Prop where
  rl : r.length = (l.take m).length
  wl : ws.length = (l.take m).length
  nb : ∀ s ∈ r, s.nb = none
  sn : ∀ (j : Nat) (G : Hp), Fs[j]? = some G → seenL Hm G
  st : ∀ (k : Nat) (o : Oper) (s : Stp) (w : Bool), (l.take m)[k]? = some o → r[k]? = some s → ws[k]? = some w → ∃ G G1 : Hp, Fs[cntB ws k]? = some G ∧ (w = true → Fs[cntB ws k + 1]? = some G1) ∧ StpC P tab im l.toArray Hm o (envAt (l.take m) r E k) G G1 s w
  /-- calls keep the text's order -/
  ch : ∀ k j, k < m → j < k → ws[k]? = some true → ws[j]? = some true → ((masks l []).getD k 0).testBit j = true
theorem cntB_pos {ws : List Bool} {j : Nat} : ∀ {k : Nat}, j < cntB ws k → ∃ k', k' < k ∧ ws[k']? = some true ∧ cntB ws k' = j
  | 0, h => by simp [cntB] at h
  | k + 1, h => by
    by_cases hk : j < cntB ws k
    · obtain ⟨k', h1, h2⟩ := cntB_pos hk
      exact ⟨k', by omega, h2⟩
    · cases hw : ws[k]? with
      | none =>
        have hl := List.getElem?_eq_none_iff.1 hw
        unfold cntB at h hk
        rw [List.take_of_length_le (by omega)] at h hk
        omega
      | some x =>
        have e : ws.take (k + 1) = ws.take k ++ [x] := by rw [List.take_add_one, hw]; rfl
        unfold cntB at h hk
        rw [e, List.countP_append] at h
        cases x with
        | false => simp at h; omega
        | true =>
          simp at h
          exact ⟨k, Nat.lt_succ_self _, hw, by unfold cntB; omega⟩
theorem cntB_mono {ws : List Bool} {k k' : Nat} (h : k < k') (hw : ws[k]? = some true) : cntB ws k < cntB ws k' := by
  have e1 : cntB ws (k + 1) = cntB ws k + 1 := by
    unfold cntB
    rw [List.take_add_one, hw, List.countP_append]; simp
  have e2 : cntB ws (k + 1) ≤ cntB ws k' := by
    unfold cntB
    exact (List.take_sublist_take_left (by omega)).countP_le
  omega
theorem JdC.read {L : Nat → Prop} {a : Act} {M : Mp} {j0 : Nat} (hO : OrdB l m) (hr : r.length = (l.take m).length) (h : JdC n kb (l.take m) r Fs ws E X0 j0 L a M) (hc : Closed l L) {k : Nat} {o : Oper} (ho : (l.take m)[k]? = some o) (hk : ¬ L k) (hpre : ∀ e ∈ o.after, Region.binds .any e = true → L e.on)
    {d : Nat} {t : T} (hd : d ∈ readsOf l.toArray o) (ht : (envAt (l.take m) r E k).get d = some t) : ∃ u, a.tmps[d]? = some u ∧ Rep M t u := by
  have hkl : k < (l.take m).length := (List.getElem?_eq_some_iff.1 ho).1
  have hol : l[k]? = some o := by rw [List.getElem?_take] at ho; split at ho; exact ho; cases ho
  have hdis : ∀ (i j : Nat) (oi oj : Oper), (l.take m)[i]? = some oi → (l.take m)[j]? = some oj → i ≠ j → ∀ d, oi.dst = some d → oj.dst ≠ some d := fun i j oi oj hi hj hij d hdi => (hO.pair j oj i oi hj hi hij d hdi).1
  obtain ⟨g1, g2⟩ := env_get (E := E) (d := d) hr (Nat.le_of_lt hkl) hdis
  by_cases hw : ∃ j oj, j < k ∧ (l.take m)[j]? = some oj ∧ oj.dst = some d
  · obtain ⟨j, oj, hj, hoj, hdj⟩ := hw
    have hs : r[j]? = some r[j] := List.getElem?_eq_getElem (by omega)
    rw [g1 j oj _ hj hoj hs hdj] at ht
    injection ht with ht; subst ht
    have hm := (hO.pair k o j oj ho hoj (by omega) d hdj).2 hd
    rw [if_pos hj] at hm
    exact h.slot j oj _ d hoj hs (mask_next hO.back hc hol hpre hm) hdj
  · rw [g2 fun j oj hj hoj hdj => hw ⟨j, oj, hj, hoj, hdj⟩] at ht
    refine h.old d t ht fun j oj hoj hLj hdj => ?_
    by_cases hjk : j = k
    · subst hjk; exact hk hLj
    · have hm := (hO.pair k o j oj ho hoj hjk d hdj).2 hd
      by_cases hlt : j < k
      · exact hw ⟨j, oj, hlt, hoj, hdj⟩
      · rw [if_neg hlt] at hm
        exact hk (mask_listed hO.back hc j hLj k hm)
theorem JdC.next [Dr] {L : Nat → Prop} {a : Act} {M M' : Mp} {j j' : Nat} (hO : OrdB l m) (h : JdC n kb (l.take m) r Fs ws E X0 j L a M) {k : Nat} {o : Oper} {s : Stp} {u : Value} (ho : (l.take m)[k]? = some o) (hs : r[k]? = some s) (hk : ¬ L k) (hd : ∀ d, o.dst = some d → d < n)
    (hE : Evo X0 M M') (hS : ∃ G, Fs[j']? = some G ∧ SimH G X0 M') (hr : Rep M' s.t u)
    (hcnt : ∀ k', ws[k']? = some true → ((L k' ∨ k' = k) ↔ cntB ws k' < j')) : JdC n kb (l.take m) r Fs ws E X0 j' (fun i => L i ∨ i = k) (a.put o.dst u) M' := by
  have keep : ∀ d v, o.dst ≠ some d → a.tmps[d]? = some v → (a.put o.dst u).tmps[d]? = some v := fun d v hne hv => by
    cases hod : o.dst with
    | none => exact hv
    | some d' => simp only [Act.put]; rw [Array.getElem?_setIfInBounds_ne (fun e => hne (by rw [hod, e]))]; exact hv
  refine ⟨hS, fun j oj sj d hoj hsj hL hdj => ?_, fun d t ht hno => ?_, ?_, ?_, Nat.le_trans h.ge hE.size, hcnt⟩
  · by_cases hjk : j = k
    · subst hjk
      rw [ho] at hoj; rw [hs] at hsj
      injection hoj with hoj; injection hsj with hsj; subst hoj hsj
      refine ⟨u, ?_, hr⟩
      rw [hdj]
      simp [Act.put, h.sz, hd d hdj]
    · obtain ⟨v, h1, h2⟩ := h.slot j oj sj d hoj hsj (hL.resolve_right hjk) hdj
      exact ⟨v, keep d v (hO.pair k o j oj ho hoj hjk d hdj).1 h1, Rep.stays hE.stays _ _ h2⟩
  · obtain ⟨v, h1, h2⟩ := h.old d t ht fun j oj hoj hL => hno j oj hoj (.inl hL)
    exact ⟨v, keep d v (hno k o ho (.inr rfl)) h1, Rep.stays hE.stays _ _ h2⟩
  · cases o.dst <;> simp [Act.put, h.sz]
  · cases o.dst <;> exact h.df.evo hE
theorem JdC.step [Dr] (hT : TabOk P tab) (hO : OrdB l m) (hF : RunCF P tab im l m E Hm r Fs ws)
    {L : Nat → Prop} {a : Act} {M : Mp} {j : Nat} (h : JdC n kb (l.take m) r Fs ws E X0 j L a M) (hc : Closed l L) {k : Nat} {o : Oper} (ho : (l.take m)[k]? = some o) (hk : ¬ L k) (hpre : ∀ e ∈ o.after, Region.binds .any e = true → L e.on) (hd : ∀ d, o.dst = some d → d < n)
    {r0 : Option Nat} {Q : Exit → Act → World → Prop} {K : Act → World → Prop} (hK : ∀ a' M' j', Evo X0 M M' → JdC n kb (l.take m) r Fs ws E X0 j' (fun i => L i ∨ i = k) a' M' → K a' M'.w) : wpOpIn (FW r0) 0 P l.toArray Q k K a M.w := by
  have hr := hF.rl
  have hkl : k < (l.take m).length := (List.getElem?_eq_some_iff.1 ho).1
  have hol : l[k]? = some o := by rw [List.getElem?_take] at ho; split at ho; exact ho; cases ho
  have hkm : k < m := by rw [List.length_take] at hkl; omega
  obtain ⟨s, hs'⟩ : ∃ x, r[k]? = some x := ⟨_, List.getElem?_eq_getElem (by omega)⟩
  obtain ⟨w, hw'⟩ : ∃ x, ws[k]? = some x := ⟨_, List.getElem?_eq_getElem (by rw [hF.wl]; omega)⟩
  obtain ⟨G, G1, hG, hG1, hstp⟩ := hF.st k o s w ho hs' hw'
  have hnb := hF.nb s (List.mem_of_getElem? hs')
  have hrd := fun (d : Nat) (t : T) => h.read hO hr hc ho hk hpre (d := d) (t := t)
  have hop : ∀ x ∈ o.op.operands.toList, ∀ t, (envAt (l.take m) r E k).opd x = some t → Rep M t (a.eval x) := by
    intro x hx t ht
    cases x with
    | tmp d =>
      obtain ⟨u, h1, h2⟩ := hrd d t (by simp only [readsOf, Oper.looksAt, List.mem_append, List.mem_filterMap]; exact .inl ⟨.tmp d, hx, rfl⟩) ht
      have : a.eval (.tmp d) = u := by show a.tmps.getD d undef = u; simp [h1]
      rw [this]; exact h2
    | const v => simp only [Env.opd] at ht; injection ht with ht; subst ht; exact rep_ofV v
    | func f => simp only [Env.opd] at ht; injection ht with ht; subst ht; exact ⟨[], [], rfl, rfl, rfl⟩
    | global g => simp only [Env.opd] at ht; injection ht with ht; subst ht; exact rfl
  unfold wpOpIn
  simp only [List.getElem?_toArray, hol]
  cases w with
  | true =>
    obtain ⟨hg, hwr⟩ := hstp
    have hw : Region.wanted o (yielded l.toArray a.tmps) = true := by simp [Region.wanted, hg]
    rw [hw, if_pos rfl]
    have hij : cntB ws k = j := by
      have h1 : ¬ cntB ws k < j := fun hh => hk ((h.cnt k hw').2 hh)
      refine Nat.le_antisymm (Nat.le_of_not_lt fun hh => ?_) (by omega)
      obtain ⟨k', q1, q2, q3⟩ := cntB_pos hh
      have hL := mask_next hO.back hc hol hpre (hF.ch k k' hkm q1 hw' q2)
      have := (h.cnt k' q2).1 hL
      omega
    obtain ⟨G', hG', hS⟩ := h.sim
    rw [hij] at hG
    rw [hG] at hG'; injection hG' with hG'; subst hG'
    have hg1 := hG1 rfl
    rw [hij] at hg1
    have hcn2 : ∀ k', ws[k']? = some true → ((L k' ∨ k' = k) ↔ cntB ws k' < j + 1) := fun k2' hw2 => by
      rw [h.cnt k2' hw2]
      constructor
      · rintro (q1 | rfl) <;> omega
      · intro hh
        by_cases h2 : cntB ws k2' < j
        · exact .inl h2
        · refine .inr ?_
          rcases Nat.lt_trichotomy k2' k with q1 | q1 | q1
          · have := cntB_mono q1 hw2; omega
          · exact q1
          · have := cntB_mono q1 hw'; omega
    rcases hwr with ⟨f, args, ats, g, us', vs', ts, hoc, hf, hts, hgo, hcall⟩ | ⟨x, y, t1, t2, ta, tb, hoc, hx, hy, happ⟩
    · have hnd : ∀ c, o.op ≠ .defer c := by rw [hoc]; simp
      refine wpIn_of hnd ?_
      obtain ⟨dst, op, ty, pos, after, guard⟩ := o
      simp only at hoc hop hd
      subst hoc
      obtain ⟨us, vs, e1, r1, r2⟩ := hop f (by simp [Op.operands, Call.operands]) _ hf
      have r3 := optL_ok (M := M) (ρ' := a.eval) _ _ (fun x hx t ht => hop x (by simp [Op.operands, Call.operands]; exact .inr (by simpa using hx)) t ht) hts
      have hrr : (execOp a.eval ⟨dst, .call ⟨.value f, args, ats⟩, ty, pos, after, guard⟩).run P M.w = .ok (.enter g (us ++ args.toList.map a.eval ++ vs).toArray) M.w := by
        simp only [execOp, resolve, Sem.run_bind, e1, Deferred.ofValue, Sem.run_pure, Result.andThen_ok, invoke]
        rw [run_goFunc _ _ _ hgo, ← map_arr]
        simp
      rw [hrr]
      refine ⟨fun hh => (by cases hh), callsIn_wide.2 ((hcall X0 M _ hS (RepL.append (RepL.append r1 r3) r2)).mono ?_)⟩
      rintro e w' ⟨u, t, H', M', rfl, rfl, ⟨rfl, rfl⟩, k2, k3, k4⟩
      exact hK _ M' (j + 1) k2 (h.next hO ho hs' hk hd k2 ⟨_, hg1, k3⟩ k4 hcn2)
    · have hnd : ∀ c, o.op ≠ .defer c := by rw [hoc]; simp
      refine wpIn_of hnd ?_
      obtain ⟨dst, op, ty, pos, after, guard⟩ := o
      simp only at hoc hop hd
      subst hoc
      have r1 := hop x (by simp [Op.operands, Call.operands]) _ hx
      have r2 := hop y (by simp [Op.operands, Call.operands]) _ hy
      obtain ⟨u, M', k1, k2, k3, k4⟩ := mAppend_ok (ty := ty) hT hS r1 r2 happ
      have hrr : (execOp a.eval ⟨dst, .call ⟨.builtin .append, #[x, y], #[t1, t2]⟩, ty, pos, after, guard⟩).run P M.w = .ok (.value u) M'.w := by simp [execOp, resolve, invoke, builtin, k1]
      rw [hrr]
      exact hK _ M' (j + 1) k2 (h.next hO ho hs' hk hd k2 ⟨_, hg1, k3⟩ k4 hcn2)
  | false =>
    have hcn : ∀ k', ws[k']? = some true → ((L k' ∨ k' = k) ↔ cntB ws k' < j) := fun k' hwk => by
      rw [← h.cnt k' hwk]
      exact ⟨fun hh => hh.resolve_right (fun e => by subst e; rw [hw'] at hwk; injection hwk with hwk; cases hwk), Or.inl⟩
    obtain ⟨G', hG', hS⟩ := h.sim
    have hsn := hF.sn j G' hG'
    have hlook : LookAt M (lookH Hm) := by
      intro b B O cells hb hcc
      refine Sim.look hS b B O cells hb ?_
      rw [lookH_c] at hcc
      rw [cells_some, ← hsn.2 b (by rw [hcc]; simp)]; exact hcc
    have hgd : ∀ g want d b, o.guard = some (g, want) → (l.toArray[g]?).bind (·.dst) = some d → (envAt (l.take m) r E k).get d = some (.v (.bool b)) → yielded l.toArray a.tmps g = some b := by
      intro g want d b hg hgd hb
      have hgd' : (l[g]?.bind fun x => x.dst) = some d := by simpa using hgd
      obtain ⟨u, h1, h2⟩ := hrd d _ (by simp [readsOf, Oper.looksAt, hg]; exact .inr hgd') hb
      obtain rfl := h2
      simp [yielded, hgd', h1]
    rcases hstp with ⟨h1, h2, g, want, d, x, hg, hgdst, hb, hne⟩ | ⟨hg, hst⟩
    · have hw : Region.wanted o (yielded l.toArray a.tmps) = false := by
        have hgd' : (l[g]?.bind fun x => x.dst) = some d := by simpa using hgdst
        obtain ⟨u, q1, q2⟩ := hrd d _ (by simp [readsOf, Oper.looksAt, hg]; exact .inr hgd') hb
        obtain rfl := q2
        have hy : yielded l.toArray a.tmps g = match u with | .bool b => some b | _ => none := by simp only [yielded, List.getElem?_toArray, hgd', Option.bind_some, q1]; cases u <;> rfl
        simp only [Region.wanted, hg, hy]
        cases u <;> first | rfl | skip
        rename_i b
        cases b <;> cases want <;> first | rfl | exact absurd rfl hne
      rw [hw]
      exact ⟨fun _ _ => trivial, hK _ M j (Evo.refl _ _) (h.next hO ho hs' hk hd (Evo.refl _ _) ⟨G', hG', hS⟩ (by rw [h1]; rfl) hcn)⟩
    · have hw : Region.wanted o (yielded l.toArray a.tmps) = true := by
        rcases hg with hg | ⟨g, want, d, hg, hgdst, hb⟩
        · simp [Region.wanted, hg]
        · have hy := hgd g want d want hg hgdst hb
          simp [Region.wanted, hg, hy]
      rw [hw, if_pos rfl]
      have hnd : ∀ c, o.op ≠ .defer c := by
        rcases hst with ⟨t, nb, hm, -⟩ | ⟨f, args, ats, g, fs, cs, ts, hoc, -⟩
        · exact opM_op hm
        · rw [hoc]; simp
      refine wpIn_of hnd ?_
      rcases hst with ⟨t, nb, hm, hst⟩ | ⟨f, args, ats, g, fs, cs, ts, hoc, hf, hts, hcall, -⟩
      · have hmk' := opM_ok (M := M) (ρ' := a.eval) hT hlook hop hm
        rcases hst with ⟨hst, hnb'⟩ | ⟨⟨e, cs⟩, rfl, hst, -⟩
        case inr =>
          obtain ⟨u, w', q1, q2, q3, q4⟩ := imm_new hS hmk' (opM_new hm)
          rw [q1]
          exact hK _ _ j q2 (h.next hO ho hs' hk hd q2 ⟨G', hG', hS.world q2 q3⟩ (by rw [hst]; exact q4) hcn)
        subst hst
        cases nb with
        | none =>
          obtain ⟨u, h1, h2⟩ := hmk'
          rw [h1]
          exact hK _ M j (Evo.refl _ _) (h.next hO ho hs' hk hd (Evo.refl _ _) ⟨G', hG', hS⟩ h2 hcn)
        | some p => rw [hnb'] at hnb; cases hnb
      · obtain ⟨dst, op, ty, pos, after, guard⟩ := o
        simp only at hoc hop hd
        subst hoc
        obtain ⟨us, vs, e1, r1, r2⟩ := hop f (by simp [Op.operands, Call.operands]) _ hf
        have r3 := optL_ok (M := M) (ρ' := a.eval) _ _ (fun x hx t ht => hop x (by simp [Op.operands, Call.operands]; exact .inr (by simpa using hx)) t ht) hts
        have hrr : (execOp a.eval ⟨dst, .call ⟨.value f, args, ats⟩, ty, pos, after, guard⟩).run P M.w = .ok (.enter g (us ++ args.toList.map a.eval ++ vs).toArray) M.w := by
          simp only [execOp, resolve, Sem.run_bind, e1, Deferred.ofValue, Sem.run_pure, Result.andThen_ok, invoke]
          rw [run_goFunc _ _ _ hcall.2.2.1, ← map_arr]
          simp
        rw [hrr]
        refine ⟨fun hh => (by cases hh), callsIn_wide.2 ((hcall.run X0 M _ hS.bnd (RepL.append (RepL.append r1 r3) r2)).mono ?_)⟩
        rintro e w' ⟨u, rfl, k1, k2, k3⟩
        exact hK _ _ j k1 (h.next hO ho hs' hk hd k1 ⟨G', hG', hS.world k1 k3⟩ k2 hcn)
end
end
section
open Go.RowKit
section
variable {z : Bool} {P : Program} {tab : Tab} {n m kb lb : Nat} {l : List Oper} {E : Env} {H Hm : Hp} {Fs : List Hp} {r : List Stp} {ws : List Bool} {X0 : Nat → Prop} {M0 : Mp} {im : List Nat}
theorem JdC.fin [Dr] {L : Nat → Prop} {a : Act} {M : Mp} {j : Nat} {F' : Hp} (hO : OrdB l m) (hF : RunCF P tab im l m E Hm r Fs ws) (hlast : Fs[cntB ws ws.length]? = some F') (hlen : Fs.length = cntB ws ws.length + 1) (h : JdC n kb (l.take m) r Fs ws E X0 j L a M) (hL : ∀ k, k < (l.take m).length → L k) : St n kb (envAt (l.take m) r E (l.take m).length) F' X0 a M := by
  have hr := hF.rl
  have hdis : ∀ (i j : Nat) (oi oj : Oper), (l.take m)[i]? = some oi → (l.take m)[j]? = some oj → i ≠ j → ∀ d, oi.dst = some d → oj.dst ≠ some d := fun i j oi oj hi hj hij d hdi => (hO.pair j oj i oi hj hi hij d hdi).1
  obtain ⟨G, hG, hS⟩ := h.sim
  have hjl := (List.getElem?_eq_some_iff.1 hG).1
  have hje : j = cntB ws ws.length := by
    refine Nat.le_antisymm (by omega) (Nat.le_of_not_lt fun hh => ?_)
    obtain ⟨k', q1, q2, q3⟩ := cntB_pos hh
    have := (h.cnt k' q2).1 (hL k' (by rw [← hF.wl]; exact q1))
    omega
  rw [hje, hlast] at hG
  injection hG with hG; subst hG
  refine ⟨fun d t ht => ?_, h.sz, h.df, h.ge, hS⟩
  obtain ⟨g1, g2⟩ := env_get (E := E) (d := d) hr (Nat.le_refl _) hdis
  by_cases hw : ∃ j oj, j < (l.take m).length ∧ (l.take m)[j]? = some oj ∧ oj.dst = some d
  · obtain ⟨j, oj, hj, hoj, hdj⟩ := hw
    have hs : r[j]? = some r[j] := List.getElem?_eq_getElem (by omega)
    rw [g1 j oj _ hj hoj hs hdj] at ht
    injection ht with ht; subst ht
    exact h.slot j oj _ d hoj hs (hL j hj) hdj
  · rw [g2 fun j oj hj hoj hdj => hw ⟨j, oj, hj, hoj, hdj⟩] at ht
    exact h.old d t ht fun j oj hoj _ hdj => hw ⟨j, oj, (List.getElem?_eq_some_iff.1 hoj).1, hoj, hdj⟩
end
def VD [Dr] (P : Program) (tab : Tab) (im : List Nat) (ops : Array Oper) (Hm : Hp) (l : List Oper) (wd : List Bool) (E : Env) (F : Hp) (K : Env → Hp → Prop) : Prop :=
  ∀ E2, Sub E E2 → ∃ r fs E' F', RunC P tab im ops Hm l E2 F r fs wd E' F' ∧ ∃ E1, Sub E1 E' ∧ K E1 F'
section
variable {z : Bool} {P : Program} {tab : Tab} {n lb : Nat} {im : List Nat} {ops : Array Oper} {l : List Oper} {E : Env} {Hm F : Hp} {K : Env → Hp → Prop} {wd : List Bool}
theorem VD.nil [Dr] (h : K E F) : VD P tab im ops Hm [] [] E F K := fun E2 he => ⟨[], [], E2, F, .nil _ _, E, he, h⟩
theorem VD.meek [Dr] {d : Nat} {op : Op} {ty : TypeId} {pos : String} {after : Array Edge} {t : T} (h : opM tab (lookH Hm) Hm.length E.opd op = some (t, none)) (k : VD P tab im ops Hm l wd ((d, t) :: E) F K) : VD P tab im ops Hm (⟨some d, op, ty, pos, after, none⟩ :: l) (false :: wd) E F K := fun E2 he => by
  obtain ⟨r, fs, E', F', h1, h2⟩ := k _ (he.put d t)
  exact ⟨⟨t, none⟩ :: r, fs, E', F', .one (s := ⟨t, none⟩) (.inr ⟨.inl rfl, .inl ⟨t, none, opM_mono (fun x s hx => he.opd hx) h, .inl ⟨rfl, rfl⟩⟩⟩) rfl h1, h2⟩
theorem VD.call [Dr] {d : Nat} {ty : TypeId} {pos : String} {after : Array Edge} {f : Operand} {args : Array Operand} {ats : Array TypeId} {g : FuncId} {us vs ts : List T} {t : T} {F1 : Hp} (hf : E.opd f = some (.clo g us vs)) (ha : optL E.opd args.toList = some ts)
    (hc : CallT P g (us ++ ts ++ vs) F (fun u H' => u = t ∧ H' = F1)) (hs : seenL Hm F1) (k : VD P tab im ops Hm l wd ((d, t) :: E) F1 K) : VD P tab im ops Hm (⟨some d, .call ⟨.value f, args, ats⟩, ty, pos, after, none⟩ :: l) (true :: wd) E F K := fun E2 he => by
  obtain ⟨r, fs, E', F', h1, h2⟩ := k _ (he.put d t)
  exact ⟨⟨t, none⟩ :: r, F1 :: fs, E', F', .call (t := t) rfl (.inl ⟨f, args, ats, g, us, vs, ts, rfl, he.opd hf, optL_mono (fun x s hx => he.opd hx) _ _ ha, hc⟩) hs h1, h2⟩
theorem VD.app [Dr] {d : Nat} {ty : TypeId} {pos : String} {after : Array Edge} {x y : Operand} {t1 t2 : TypeId} {ta tb t : T} {F1 : Hp} (hx : E.opd x = some ta) (hy : E.opd y = some tb) (ha : mAppend tab F t1 t2 ta tb = some (t, F1)) (hs : seenL Hm F1) (k : VD P tab im ops Hm l wd ((d, t) :: E) F1 K) :
    VD P tab im ops Hm (⟨some d, .call ⟨.builtin .append, #[x, y], #[t1, t2]⟩, ty, pos, after, none⟩ :: l) (true :: wd) E F K := fun E2 he => by
  obtain ⟨r, fs, E', F', h1, h2⟩ := k _ (he.put d t)
  exact ⟨⟨t, none⟩ :: r, F1 :: fs, E', F', .call (t := t) rfl (.inr ⟨x, y, t1, t2, ta, tb, rfl, he.opd hx, he.opd hy, ha⟩) hs h1, h2⟩
theorem VD.newI [Dr] {d : Nat} {op : Op} {ty : TypeId} {pos : String} {after : Array Edge} {t : T} {p : Nat × List T} (h : opM tab (lookH Hm) Hm.length E.opd op = some (t, some p)) (k : VD P tab im ops Hm l wd ((d, immT t p.2) :: E) F K) : VD P tab im ops Hm (⟨some d, op, ty, pos, after, none⟩ :: l) (false :: wd) E F K := fun E2 he => by
  obtain ⟨r, fs, E', F', h1, h2⟩ := k _ (he.put d _)
  exact ⟨⟨immT t p.2, none⟩ :: r, fs, E', F', .one (s := ⟨immT t p.2, none⟩) (.inr ⟨.inl rfl, .inl ⟨t, some p, opM_mono (fun x s hx => he.opd hx) h, .inr ⟨p, rfl, rfl, rfl⟩⟩⟩) rfl h1, h2⟩
theorem VD.callP [Dr] {d : Nat} {ty : TypeId} {pos : String} {after : Array Edge} {f : Operand} {args : Array Operand} {ats : Array TypeId} {g : FuncId} {us vs ts : List T} {t : T} (hf : E.opd f = some (.clo g us vs)) (ha : optL E.opd args.toList = some ts)
    (hc : CallP P g (us ++ ts ++ vs) t) (k : VD P tab im ops Hm l wd ((d, t) :: E) F K) : VD P tab im ops Hm (⟨some d, .call ⟨.value f, args, ats⟩, ty, pos, after, none⟩ :: l) (false :: wd) E F K := fun E2 he => by
  obtain ⟨r, fs, E', F', h1, h2⟩ := k _ (he.put d t)
  exact ⟨⟨t, none⟩ :: r, fs, E', F', .one (s := ⟨t, none⟩) (.inr ⟨.inl rfl, .inr ⟨f, args, ats, g, us, vs, ts, rfl, he.opd hf, optL_mono (fun x s hx => he.opd hx) _ _ ha, hc, rfl⟩⟩) rfl h1, h2⟩
end

end
section
open Go.ChangeShapes Go.WideShapes Go.ChangeAt Go.RowKit Go.WideElems
inductive Sh where
  | int (k : IntKind)
  | bool
  | str
  | st (l : List Sh)
  | sl (e : Sh)
mutual
def Sh.fits (P : Program) : Sh → TypeId → Bool
  | .int k, t => match P.underlying t with | some (.int k') => decide (k' = k) | _ => false
  | .bool, t => match P.underlying t with | some .bool => true | _ => false
  | .str, t => match P.underlying t with | some .string => true | _ => false
  | .st l, t => match P.underlying t with | some (.struct fs) => Sh.fitsL P l fs.toList 0 (P.cellsOf t) | _ => false
  | .sl e, t => match P.underlying t with | some (.slice u) => Sh.fits P e u && decide (0 < P.cellsOf u) && decide (P.cellsOf t = 1) | _ => false
def Sh.fitsL (P : Program) : List Sh → List Field → Nat → Nat → Bool
  | [], [], o, n => o == n
  | s :: l, f :: fs, o, n => f.offset == o && Sh.fits P s f.type && Sh.fitsL P l fs (o + P.cellsOf f.type) n
  | _, _, _, _ => false
end
def nth (p : List T → Prop) : Nat → List T → Prop
  | 0, xs => xs = []
  | n + 1, xs => ∃ a b, xs = a ++ b ∧ p a ∧ nth p n b
mutual
def Sh.wt : Sh → List T → Prop
  | .int k, ts => ∃ n, ts = [.v (.int k n)] ∧ (Lit.int k n).wf = true
  | .bool, ts => ∃ b, ts = [.v (.bool b)]
  | .str, ts => ∃ s : ByteArray, ts = [.v (.string s)] ∧ s.size ≤ maxLen
  | .st l, ts => Sh.wtL l ts
  | .sl e, ts => ∃ xs n, ts = [.islc xs n none] ∧ n ≤ maxLen ∧ nth (Sh.wt e) n xs
def Sh.wtL : List Sh → List T → Prop
  | [], ts => ts = []
  | s :: l, ts => ∃ a b, ts = a ++ b ∧ Sh.wt s a ∧ Sh.wtL l b
end
def inW (β : Nat → Option (Option (Nat × Nat))) (W : World) : Mp := ⟨β, fun _ => False, W⟩
theorem RepA.app {M : Mp} : ∀ {ts ss : List T} {a : Array Value} {j : Nat}, RepA M ts a j → RepA M ss a (j + ts.length) → RepA M (ts ++ ss) a j
  | [], ss, a, j, _, h => h
  | t :: ts, ss, a, j, ⟨u, h1, h2, h3⟩, h => ⟨u, h1, h2, RepA.app h3 (by rw [show j + 1 + ts.length = j + (t :: ts).length from by rw [List.length_cons]; omega]; exact h)⟩
theorem cell_block {W : World} {B o : Nat} {v : Value} (h : W.cell? ⟨B, o, none⟩ = some v) : ∃ a e f, W.heap[B]? = some (.cells a e f) := by
  unfold World.cell? at h
  split at h
  · rename_i c e f hh
    exact ⟨c, e, f, hh⟩
  · cases h
theorem cell_inW {W : World} {B o : Nat} {a : Array Value} {e : TypeId} {f : Nat × Nat} (h : W.heap[B]? = some (.cells a e f)) : W.cell? ⟨B, o, none⟩ = a[o]? := by
  unfold World.cell?
  rw [h]
  rfl
theorem add_n (B o i : Nat) : (Addr.add ⟨B, o, none⟩ i) = ⟨B, o + i, none⟩ := by
  unfold Addr.add
  split
  · subst_vars; rfl
  · rfl
section
variable {H : Type} {enc : TypeId × Value → H} {P : Program} {W : World} {sp : Nat → Bool} {held : Bool} {β : Nat → Option (Option (Nat × Nat))}
mutual
theorem open_sh : ∀ (s : Sh) {t : TypeId} {fuel : Nat} {cs : List Value} {x : DataW H × List MemPlace}, s.fits P t = true → DataW.trod enc P W 0 sp held fuel t cs = some x → cs.length = P.cellsOf t → ∃ ts, RepL (inW β W) ts cs ∧ s.wt ts
  | .int k, t, fuel, cs, x, hs, h, hl => by
    unfold Sh.fits at hs
    split at hs
    · rename_i k' hu
      obtain rfl : k' = k := of_decide_eq_true hs
      obtain ⟨n, rfl, _, hw⟩ := DataW.trod_int hu h
      exact ⟨[.v (.int k' n)], ⟨_, _, rfl, rfl, rfl⟩, n, rfl, hw⟩
    · cases hs
  | .bool, t, fuel, cs, x, hs, h, hl => by
    unfold Sh.fits at hs
    split at hs
    · rename_i hu
      cases fuel with
      | zero => simp [DataW.trod] at h
      | succ n =>
        unfold DataW.trod at h
        rw [hu] at h
        split at h <;> simp_all
        exact ⟨[.v (.bool _)], ⟨_, _, rfl, rfl, rfl⟩, _, rfl⟩
    · cases hs
  | .str, t, fuel, cs, x, hs, h, hl => by
    unfold Sh.fits at hs
    split at hs
    · rename_i hu
      obtain ⟨s, rfl, _, hw⟩ := DataW.trod_string hu h
      exact ⟨[.v (.string s)], ⟨_, _, rfl, rfl, rfl⟩, s, rfl, hw⟩
    · cases hs
  | .st l, t, fuel, cs, x, hs, h, hl => by
    unfold Sh.fits at hs
    split at hs
    · rename_i fs hu
      obtain ⟨xs, n, -, -, hc, hx, hf⟩ := DataW.trod_struct hu h
      have := open_shL l (fs := fs.toList) (o := 0) (n := P.cellsOf t) (cs := cs) (m := n) hs hc (fun f hm => by
        obtain ⟨i, hi⟩ := List.getElem?_of_mem hm
        have hi2 : fs[i]? = some f := by simpa using hi
        have h1 := hf i f hi2
        have hlt : i < xs.length := by rw [hx]; exact (Array.getElem?_eq_some_iff.1 hi2).1
        exact ⟨xs[i], by rw [h1, List.getElem?_eq_getElem hlt]⟩)
      rw [List.drop_zero] at this
      exact this
    · cases hs
  | .sl e, t, fuel, cs, x, hs, h, hl => by
    unfold Sh.fits at hs
    split at hs
    · rename_i u hu
      simp only [Bool.and_eq_true, decide_eq_true_eq] at hs
      obtain ⟨hs, -⟩ := hs
      rcases DataW.trod_slice hu h with ⟨rfl, -⟩ | ⟨a, len, cap, elems, rest, m, -, rfl, -, -, hle, hcap, hlen, hel, -, -⟩
      · exact ⟨[.islc [] 0 none], ⟨_, _, rfl, ⟨none, 0, rfl, Nat.le_refl _, Nat.zero_le _, fun q hq => (by cases hq), .inl ⟨rfl, rfl⟩⟩, rfl⟩, [], 0, rfl, Nat.zero_le _, rfl⟩
      · by_cases hn : len = 0
        · subst hn
          exact ⟨[.islc [] 0 none], ⟨_, _, rfl, ⟨some a, cap, rfl, Nat.zero_le _, hcap, fun q hq => (by cases hq), .inl ⟨rfl, rfl⟩⟩, rfl⟩, [], 0, rfl, Nat.zero_le _, rfl⟩
        · have h0 := hel 0 (by omega)
          have hsome : ∀ i, i < len → ∃ cs' y, W.cells? 0 (a.add (i * P.cellsOf u)) (P.cellsOf u) = some cs' ∧ DataW.trod enc P W 0 sp held m u cs' = some y := fun i hi => by
            have hq := hel i hi
            rw [List.getElem?_eq_getElem (by omega), Option.bind_eq_some_iff] at hq
            obtain ⟨cs', h1, h2⟩ := hq
            exact ⟨cs', _, h1, h2⟩
          obtain ⟨ab, ao, asx⟩ := a
          obtain ⟨cs0, y0, c1, -⟩ := hsome 0 (by omega)
          obtain ⟨-, c2, c3⟩ := World.cells?_some c1
          have c4 := c3 0 hs.2
          rw [List.getElem?_eq_getElem (by omega)] at c4
          have hspot : asx = none := by simpa [Addr.add] using World.cell?_spot c4
          subst hspot
          rw [add_n, add_n] at c4
          obtain ⟨arr, e1, f1, hB⟩ := cell_block c4
          have build : ∀ n i, i + n ≤ len → ∃ xs, nth e.wt n xs ∧ RepA (inW β W) xs arr (ao + i * P.cellsOf u) := by
            intro n
            induction n with
            | zero => exact fun i _ => ⟨[], rfl, trivial⟩
            | succ n ih =>
              intro i hi
              obtain ⟨xs, k1, k2⟩ := ih (i + 1) (by omega)
              obtain ⟨cs', y, g1, g2⟩ := hsome i (by omega)
              obtain ⟨-, g3, g4⟩ := World.cells?_some g1
              obtain ⟨ts, r1, r2⟩ := open_sh e hs.1 g2 g3
              have hlen' : ts.length = P.cellsOf u := by rw [← r1.length, g3]
              refine ⟨ts ++ xs, ⟨ts, xs, rfl, r2, k1⟩, RepA.app (repA_of fun j tj hj => ?_) (by rw [hlen', Nat.add_assoc, ← Nat.succ_mul]; exact k2)⟩
              obtain ⟨uj, q1, q2⟩ := r1.get j tj hj
              have hjl : j < P.cellsOf u := by rw [← g3]; exact (List.getElem?_eq_some_iff.1 q1).1
              refine ⟨uj, ?_, q2⟩
              rw [← q1, ← g4 j hjl, add_n, add_n, cell_inW hB]
          obtain ⟨xs, k1, k2⟩ := build len 0 (by omega)
          rw [Nat.zero_mul, Nat.add_zero] at k2
          refine ⟨[.islc xs len none], ⟨_, _, rfl, ⟨_, cap, rfl, hle, hcap, fun q hq => (by cases hq), .inr ⟨ab, ao, arr, rfl, ⟨fun hx => hx, e1, f1, hB⟩, k2⟩⟩, rfl⟩, xs, len, rfl, by omega, k1⟩
    · cases hs
theorem open_shL : ∀ (l : List Sh) {fs : List Field} {o n m : Nat} {cs : List Value}, Sh.fitsL P l fs o n = true → cs.length = n → (∀ f ∈ fs, ∃ x, DataW.trod enc P W 0 sp held m f.type ((cs.drop f.offset).take (P.cellsOf f.type)) = some x) → ∃ ts, RepL (inW β W) ts (cs.drop o) ∧ Sh.wtL l ts
  | [], [], o, n, m, cs, hs, hl, h => by
    have e : o = n := by unfold Sh.fitsL at hs; simpa using hs
    exact ⟨[], by show cs.drop o = []; rw [List.drop_eq_nil_iff]; omega, rfl⟩
  | [], f :: fs, o, n, m, cs, hs, hl, h => by unfold Sh.fitsL at hs; cases hs
  | s :: l, [], o, n, m, cs, hs, hl, h => by unfold Sh.fitsL at hs; cases hs
  | s :: l, f :: fs, o, n, m, cs, hs, hl, h => by
    unfold Sh.fitsL at hs
    simp only [Bool.and_eq_true, beq_iff_eq] at hs
    obtain ⟨⟨h1, h2⟩, h3⟩ := hs
    have hle := fitsL_le l h3
    obtain ⟨x, hx⟩ := h f (by simp)
    obtain ⟨a, a1, a2⟩ := open_sh s h2 hx (by rw [List.length_take, List.length_drop]; omega)
    obtain ⟨b, b1, b2⟩ := open_shL l h3 hl (fun g hg => h g (by simp [hg]))
    refine ⟨a ++ b, ?_, a, b, rfl, a2, b2⟩
    have e : cs.drop o = (cs.drop f.offset).take (P.cellsOf f.type) ++ cs.drop (o + P.cellsOf f.type) := by
      rw [h1, ← List.drop_drop, List.take_append_drop]
    rw [e]
    exact RepL.append a1 b1
theorem fitsL_le : ∀ (l : List Sh) {fs : List Field} {o n : Nat}, Sh.fitsL P l fs o n = true → o ≤ n
  | [], [], o, n, hs => by unfold Sh.fitsL at hs; simp at hs; omega
  | [], f :: fs, o, n, hs => by unfold Sh.fitsL at hs; cases hs
  | s :: l, [], o, n, hs => by unfold Sh.fitsL at hs; cases hs
  | s :: l, f :: fs, o, n, hs => by
    unfold Sh.fitsL at hs
    simp only [Bool.and_eq_true, beq_iff_eq] at hs
    have := fitsL_le l hs.2
    omega
end
def Sh.tree : Sh → List T → T
  | .st _, ts => .agg ts
  | _, ts => ts.headD (.tup [])
theorem open_arg {b0 : Nat} (s : Sh) {t : TypeId} {v : Value} {d : DataW H} {p : List MemPlace} (hs : s.fits P t = true) (hv : Value.okWide P W .any b0 t v) (h : DataW.Trod enc P W 0 sp held t v d p) :
    ∃ ts, Rep (inW β W) (s.tree ts) v ∧ s.wt ts := by
  obtain ⟨fuel, hf⟩ := h
  cases s with
  | int k =>
    have hs' := hs
    unfold Sh.fits at hs
    split at hs
    · rename_i k' hu
      obtain ⟨n, rfl⟩ := okWide_int hu hv
      obtain ⟨n', e, _, hw⟩ := DataW.trod_int hu hf
      simp [Value.cells] at e
      obtain ⟨rfl⟩ := e
      obtain rfl : k' = k := of_decide_eq_true hs
      exact ⟨[.v (.int k' n)], rfl, n, rfl, hw⟩
    · cases hs
  | bool =>
    unfold Sh.fits at hs
    split at hs
    · rename_i hu
      obtain ⟨n, rfl⟩ := okWide_bool hu hv
      exact ⟨[.v (.bool n)], rfl, n, rfl⟩
    · cases hs
  | str =>
    unfold Sh.fits at hs
    split at hs
    · rename_i hu
      obtain ⟨n, rfl⟩ := okWide_string hu hv
      obtain ⟨n', e, _, hw⟩ := DataW.trod_string hu hf
      simp [Value.cells] at e
      subst e
      exact ⟨[.v (.string n)], rfl, n, rfl, hw⟩
    · cases hs
  | st l =>
    have hs' := hs
    unfold Sh.fits at hs
    split at hs
    · rename_i fs hu
      obtain ⟨cs, rfl, hsz⟩ := okWide_struct hu hv
      obtain ⟨ts, r1, r2⟩ := open_sh (β := β) (.st l) hs' hf (by rw [← hsz]; rfl)
      exact ⟨ts, ⟨cs.toList, rfl, r1⟩, r2⟩
    · cases hs
  | sl e =>
    have hs' := hs
    unfold Sh.fits at hs
    split at hs
    · rename_i u hu
      obtain ⟨a, len, cap, rfl⟩ := okWide_slice hu hv
      have hl1 : P.cellsOf t = 1 := by
        simp only [Bool.and_eq_true, decide_eq_true_eq] at hs
        exact hs.2
      obtain ⟨ts, r1, r2⟩ := open_sh (β := β) (.sl e) hs' hf (by rw [hl1]; rfl)
      obtain ⟨xs, n, rfl, h1, h2⟩ := r2
      obtain ⟨w, r, e1, e2, e3⟩ := r1
      have e1' : [Value.slice a len cap] = w :: r := e1
      injection e1' with e4 e5
      subst e4
      exact ⟨[.islc xs n none], e2, xs, n, rfl, h1, h2⟩
    · cases hs
theorem law_run [Dr] {f : FuncId} {args : List T} {vs : List Value} (h : CallP P f args (.v (.bool true))) (hr : RepL (inW (fun _ => none) W) args vs) :
    Calls P f vs.toArray W (fun e W' => e = .returned (.bool true) ∧ Below W.heap.size W W') :=
  (h.run (fun _ => False) (inW (fun _ => none) W) vs (fun B hB => hB.elim) hr).mono fun e W' ⟨u, h1, h2, h3, h4⟩ => by
    have h3' : u = .bool true := h3
    subst h3'
    exact ⟨h1, ⟨h2.os, h2.tape.1, h2.output, h2.size, h4⟩⟩
end
end
section
open Go.RowKit
instance looseI : Dr := looseD
end
section
open Go.RowKit
def cY : Cd UInt8 := ⟨1, fun b => [U8 (b.toNat : Int)], fun _ => rfl, fun _ => rfl, fun _ => rfl, by decide⟩
theorem cY_sz : cY.sz = 1 := rfl
abbrev strT (l : List UInt8) : T := .v (.string ⟨l.toArray⟩)
def cStr : Cd (List UInt8) := ⟨1, fun l => [strT l], fun _ => rfl, fun _ => rfl, fun _ => rfl, by decide⟩
theorem cStr_sz : cStr.sz = 1 := rfl
theorem au_sY {p : Prop} (h : p := by first | rfl | exact Nat.le_of_ble_eq_true rfl | omega | (simp only [encL_len, List.length_append, List.length_cons, List.length_nil, List.length_replicate, Nat.zero_add, cI_sz, cU_sz, cY_sz, cStr_sz]; omega) | (simp [encL_len, cI_sz, cU_sz, cY_sz, cStr_sz]; done) | (simp [encL_len, cI_sz, cU_sz, cY_sz, cStr_sz]; omega)) : p := h
theorem bytesT_Y : ∀ l : List UInt8, bytesT (encL cY l) = some l
  | [] => rfl
  | b :: l => by
    show (match bytesT (encL cY l) with | some l' => some (UInt8.ofNat ((b.toNat : Int)).toNat :: l') | none => none) = _
    rw [bytesT_Y l]
    simp
theorem wrapU {n : Int} (h : 0 ≤ n ∧ n < 256) : IntKind.u8.wrap n = n := by
  have : IntKind.u8.wrap n = n % 256 := by simp [IntKind.wrap, IntKind.bits, IntKind.signed]
  rw [this]; omega
theorem src_c {α : Type} (c : Cd α) {tab : Tab} {look : Look} {t e sz n : Nat} {i : TyI} {l : List α} {q : Option Nat} (hn : n = l.length) (hT : tab t = some i) (hk : i.k = .sl e) (hz : sz = c.sz) : srcCells tab look t sz (.islc (encL c l) n q) = some (encL c l, n) := by
  subst hz hn
  unfold srcCells
  rw [hT]
  simp only [hk]
  rw [if_pos (by rw [encL_len]; exact Nat.le_refl _), List.take_of_length_le (by rw [encL_len]; exact Nat.le_refl _)]
theorem app_none {tab : Tab} {H : Hp} {t1 t2 : Nat} {y : T} {i j : TyI} {e n2 : Nat} {ys : List T} {cs : List T} (hT : tab t1 = some i) (hk : i.k = .sl e) (hj : tab e = some j) (hs : srcCells tab (lookH H) t2 j.sz y = some (ys, n2)) (h2 : n2 * j.by_ ≤ 2 ^ 47) (h3 : n2 ≤ 2 ^ 47) (h4 : n2 * j.sz = ys.length) :
    mAppend tab H t1 t2 (.islc cs 0 (some 0)) y = some (.slc H.length 0 n2 j.sz none, H ++ [.c ys]) := by
  simp only [mAppend, hT, hk, hj, hs]
  rw [if_pos ⟨h2, h3, h4⟩]
section
variable {q : Bool} {P : Program} {tab : Tab} {im : List Nat} {ds : List (Option Nat)} {l : List Oper} {E : Env} {H Hm F : Hp} {K : Env → Hp → Prop} {d : Nat} {ty : TypeId} {pos : String} {after : Array Edge} {ops : Array Oper} {wd : List Bool}
theorem VX.appX [Dr] {x y : Operand} {t1 t2 : TypeId} {ta tb t : T} {F1 : Hp} (hx : E.opd x = some ta) (hy : E.opd y = some tb) (ha : mAppend tab H t1 t2 ta tb = some (t, F1))
    (k : VX false P tab im ds l ((d, t) :: E) F1 K) : VX false P tab im ds (⟨some d, .call ⟨.builtin .append, #[x, y], #[t1, t2]⟩, ty, pos, after, none⟩ :: l) E H K := by
  intro E2 he
  show vcGuard ds E2 _ _ _
  unfold vcGuard vcOp
  simp only [he.opd hx, he.opd hy, ha]
  exact k _ (he.put (some d) _)
theorem VX.maxX [Dr] {x y : Operand} {t1 t2 : TypeId} {a b : Int} (hx : E.opd x = some (I64 a)) (hy : E.opd y = some (I64 b)) (k : VX q P tab im ds l ((d, I64 (max a b)) :: E) H K) : VX q P tab im ds (⟨some d, .call ⟨.builtin .max, #[x, y], #[t1, t2]⟩, ty, pos, after, none⟩ :: l) E H K := by
  refine VX.meek (t := I64 (max a b)) ?_ k
  have e : (if b > a then b else a) = max a b := by rw [Int.max_def]; split <;> split <;> omega
  simp only [opM, optL, hx, hy, mMins, mMin, Bool.false_eq_true, if_false, e]
theorem VX.minX [Dr] {x y : Operand} {t1 t2 : TypeId} {a b : Int} (hx : E.opd x = some (I64 a)) (hy : E.opd y = some (I64 b)) (k : VX q P tab im ds l ((d, I64 (min a b)) :: E) H K) : VX q P tab im ds (⟨some d, .call ⟨.builtin .min, #[x, y], #[t1, t2]⟩, ty, pos, after, none⟩ :: l) E H K := by
  refine VX.meek (t := I64 (min a b)) ?_ k
  have e : (if b < a then b else a) = min a b := by rw [Int.min_def]; split <;> split <;> omega
  simp only [opM, optL, hx, hy, mMins, mMin, if_true, e]
theorem VX.quoX [Dr] {x y : Operand} {t t2 : Nat} {a c : Int} (hx : E.opd x = some (I64 a)) (hy : E.opd y = some (I64 c)) (ha : 0 ≤ a) (ha2 : a ≤ 9000000000000000000) (hc : 0 < c) (k : VX q P tab im ds l ((d, I64 (a / c)) :: E) H K) : VX q P tab im ds (⟨some d, .binOp .quo t x y t2, ty, pos, after, none⟩ :: l) E H K := by
  refine VX.meek (t := I64 (a / c)) ?_ k
  have h1 : a / c ≤ a := Int.ediv_le_self c ha
  have h2 : 0 ≤ a / c := Int.ediv_nonneg ha (by omega)
  have hc' : ¬ c = 0 := by omega
  simp only [opM, hx, hy, mBin, binInt]
  rw [if_neg hc', Int.tdiv_eq_ediv_of_nonneg ha, wrap_in (by omega)]
  rfl
theorem VX.copyX [Dr] {x y : Operand} {t1 t2 : TypeId} {ta tb t : T} {F1 : Hp} (hx : E.opd x = some ta) (hy : E.opd y = some tb) (ha : mCopy tab H t1 t2 ta tb = some (t, F1))
    {d : Option Nat} (k : VX false P tab im ds l (putC E d t) F1 K) : VX false P tab im ds (⟨d, .call ⟨.builtin .copy, #[x, y], #[t1, t2]⟩, ty, pos, after, none⟩ :: l) E H K := VX.copy hx hy ha k
theorem VX.strI [Dr] {t1 t2 e n : Nat} {x : Operand} {i j r : TyI} {c : Option Nat} {cs : List T} {xs : List UInt8} (hT : tab t1 = some i) (hk : i.k = .sl e) (hj : tab t2 = some j) (hj2 : j.k = .str) (he : tab e = some r) (hr : r.k = .int .u8) (hx : E.opd x = some (.islc cs n c)) (hl : n ≤ cs.length) (hc : cs.take n = encL cY xs)
    (k : VX q P tab im ds l ((d, strT xs) :: E) H K) : VX q P tab im ds (⟨some d, .convert t1 t2 x, ty, pos, after, none⟩ :: l) E H K := by
  refine VX.meek (t := strT xs) ?_ k
  simp only [opM, hx, mConv, hT, hj, hk, hj2, he, hr]
  rw [if_pos hl, hc, bytesT_Y]
theorem VX.strY [Dr] {t1 t2 e b o n : Nat} {x : Operand} {i j r : TyI} {c : Option Nat} {cs : List T} {xs : List UInt8} (hT : tab t1 = some i) (hk : i.k = .sl e) (hj : tab t2 = some j) (hj2 : j.k = .str) (he : tab e = some r) (hr : r.k = .int .u8) (hx : E.opd x = some (.slc b o n 1 c)) (hb : lookH H b = some cs) (hl : o + n ≤ cs.length) (hc : (cs.drop o).take n = encL cY xs)
    (k : VX q P tab im ds l ((d, strT xs) :: E) H K) : VX q P tab im ds (⟨some d, .convert t1 t2 x, ty, pos, after, none⟩ :: l) E H K := by
  refine VX.meek (t := strT xs) ?_ k
  simp only [opM, hx, mConv, hT, hj, hk, hj2, he, hr, hb]
  rw [if_pos hl, hc, bytesT_Y]
theorem VX.idxY [Dr] {t m : Nat} {x ix : Operand} {i : TyI} {xs : List UInt8} {k : IntKind} {z : Int} {b : UInt8} (hT : tab t = some i) (hk : i.k = .str) (hx : E.opd x = some (strT xs)) (hi : E.opd ix = some (.v (.int k z))) (hz : z = (m : Int)) (hb : xs[m]? = some b)
    (kk : VX q P tab im ds l ((d, U8 (b.toNat : Int)) :: E) H K) : VX q P tab im ds (⟨some d, .index t x ix, ty, pos, after, none⟩ :: l) E H K := by
  refine VX.meek (t := U8 (b.toNat : Int)) ?_ kk
  subst hz
  have hs : (⟨xs.toArray⟩ : ByteArray)[m]? = some b := by
    obtain ⟨h1, h2⟩ := List.getElem?_eq_some_iff.1 hb
    rw [getElem?_pos (⟨xs.toArray⟩ : ByteArray) m (by exact h1)]
    congr 1
  simp only [opM, hx, hi, mIndex, hT, hk, Int.natCast_nonneg, if_true, Int.toNat_natCast]
  rw [hs]
theorem str_beq (a b : List UInt8) : ((⟨a.toArray⟩ : ByteArray).toList == (⟨b.toArray⟩ : ByteArray).toList) = (a == b) := by
  have h : ∀ l : List UInt8, (⟨l.toArray⟩ : ByteArray).toList = l := fun l => by
    rw [show (⟨l.toArray⟩ : ByteArray).toList = (⟨l.toArray⟩ : ByteArray).data.toList from ByteArray.toList_eq _]
  rw [h, h]
end
theorem CallP.of_world {P : Program} {f : FuncId} {us : List Value} {args : List T} {r : T} (hp : T.pureL args = true) (hr : r.pure = true) (he : ∀ (M : Mp) vs, RepL M args vs → vs = us) (hgo : goB P f = true)
    (h : ∀ w, Calls P f us.toArray w (fun e w' => ∃ u, e = .returned u ∧ Below w.heap.size w w' ∧ ∀ M : Mp, M.w = w' → (∀ B, w.heap.size ≤ B → ¬ M.X B) → Rep M r u)) : CallP P f args r := by
  refine ⟨hp, hr, hgo, fun X0 M vs hS hrep => ?_⟩
  obtain rfl := he M vs hrep
  refine (h M.w).mono ?_
  rintro e w' ⟨u, rfl, hb, hu⟩
  have hk : ∀ B, B < M.w.heap.size → w'.heap[B]? = M.w.heap[B]? := fun B hB => hb.block B hB
  have hE : Evo X0 M ⟨M.β, M.X, w'⟩ := ⟨fun _ _ h => h, fun _ _ h => h, fun B hB _ => hk B hB, fun B s hs => by
    have : B < M.w.heap.size := by
      rcases Nat.lt_or_ge B M.w.heap.size with h1 | h1
      · exact h1
      · simp [World.shape?, Array.getElem?_eq_none h1] at hs
    rw [← hs]; exact shape_block (hk B this), hb.os, ⟨hb.tape, fun d => d.elim⟩, hb.output, hb.size⟩
  exact ⟨u, r, [], ⟨M.β, M.X, w'⟩, rfl, rfl, rfl, hE, hS.world hE hk, hu _ rfl fun B hB hx => absurd (hS.bnd B hx) (by omega)⟩
end
section
open Go.RowKit
def clearL (g : List UInt8) (a b : Nat) : List UInt8 := g.take a ++ (List.replicate (b - a) 32 ++ g.drop (max a b))
theorem clearL_none (g : List UInt8) (a b : Nat) (h : b ≤ a) : clearL g a b = g := by
  unfold clearL
  rw [Nat.sub_eq_zero_of_le h, Nat.max_eq_left h]
  simp
theorem clearL_len (g : List UInt8) (a b : Nat) (h : b ≤ g.length) : (clearL g a b).length = g.length := by
  unfold clearL
  simp only [List.length_append, List.length_take, List.length_replicate, List.length_drop]
  omega
theorem clearL_at (g : List UInt8) (a b j : Nat) (h : b ≤ g.length) : (clearL g a b)[j]? = if a ≤ j ∧ j < b then some 32 else g[j]? := by
  by_cases hab : b ≤ a
  · rw [clearL_none g a b hab, if_neg (by omega)]
  · unfold clearL
    rw [Nat.max_eq_right (by omega)]
    by_cases h1 : j < a
    · rw [List.getElem?_append_left (by simp; omega), List.getElem?_take, if_pos h1, if_neg (by omega)]
    · rw [List.getElem?_append_right (by simp; omega), List.length_take, Nat.min_eq_left (by omega)]
      by_cases h2 : j < b
      · rw [List.getElem?_append_left (by simp; omega), List.getElem?_replicate, if_pos (by omega), if_pos (by omega)]
      · rw [List.getElem?_append_right (by simp; omega), List.length_replicate, List.getElem?_drop, if_neg (by omega)]
        congr 1; omega
theorem clearL_step (g : List UInt8) (a i : Nat) (ha : a ≤ i) (h : i < g.length) : (clearL g a i).set i 32 = clearL g a (i + 1) := by
  apply List.ext_getElem?
  intro j
  rw [List.getElem?_set, clearL_len g a i (by omega), clearL_at g a i j (by omega), clearL_at g a (i + 1) j (by omega)]
  by_cases h1 : i = j
  · subst h1; rw [if_pos rfl, if_pos h, if_pos (by omega)]
  · rw [if_neg h1]
    by_cases h2 : a ≤ j ∧ j < i
    · rw [if_pos h2, if_pos (by omega)]
    · rw [if_neg h2, if_neg (by omega)]
def Scr.clear (S : Scr) (a b : Nat) : Scr := { S with grid := clearL S.grid a b }
def Scr.keep (S : Scr) (l : List UInt8) : Scr :=
  if S.most = 0 then S else if S.most ≤ S.kept.length then { S with kept := S.kept.tail ++ [l] } else { S with kept := S.kept ++ [l] }
def Scr.withGrid (S : Scr) (g : List UInt8) : Scr := { S with grid := g }
theorem Scr.keep_grid (S : Scr) (l : List UInt8) : (S.keep l).grid = S.grid := by unfold Scr.keep; split; rfl; split <;> rfl
theorem Scr.keep_cols (S : Scr) (l : List UInt8) : (S.keep l).cols = S.cols := by unfold Scr.keep; split; rfl; split <;> rfl
theorem scroll_grid (g : List UInt8) (k : Nat) (h : k ≤ g.length) : clearL (g.drop k ++ g.drop (g.length - k)) (g.length - k) g.length = g.drop k ++ List.replicate k 32 := by
  have hl : (g.drop k).length = g.length - k := List.length_drop
  have hl2 : (g.drop (g.length - k)).length ≤ k := by rw [List.length_drop]; omega
  unfold clearL
  have hd : (g.drop k ++ g.drop (g.length - k)).drop g.length = [] := List.drop_eq_nil_of_le (by rw [List.length_append]; omega)
  have ht : (g.drop k ++ g.drop (g.length - k)).take (g.length - k) = g.drop k := by rw [← hl]; exact List.take_left
  rw [Nat.max_eq_right (by omega), hd, ht, List.append_nil]
  congr 2; omega
def Scr.scroll (S : Scr) : Scr :=
  (S.keep (S.grid.take S.cols)).withGrid (S.grid.drop S.cols ++ List.replicate S.cols 32)
def Scr.lineEnd (S : Scr) : Scr := if S.y + 1 < S.rows then { S with x := 0, y := S.y + 1 } else ({ S with x := 0 } : Scr).scroll
theorem Scr.Ok.keep {S : Scr} (ok : S.Ok) (l : List UInt8) : (S.keep l).Ok := by
  unfold Scr.keep
  split
  · exact ok
  · split
    · exact ⟨ok.c1, ok.c2, ok.r1, ok.r2, ok.m, ok.x, ok.y, ok.g, by have := ok.k; simp; omega, ok.s, ok.a, ok.b, ok.n⟩
    · exact ⟨ok.c1, ok.c2, ok.r1, ok.r2, ok.m, ok.x, ok.y, ok.g, by simp; omega, ok.s, ok.a, ok.b, ok.n⟩
theorem Scr.Ok.withGrid {S : Scr} (ok : S.Ok) (g : List UInt8) (h : g.length = S.grid.length) : (S.withGrid g).Ok :=
  ⟨ok.c1, ok.c2, ok.r1, ok.r2, ok.m, ok.x, ok.y, h.trans ok.g, ok.k, ok.s, ok.a, ok.b, ok.n⟩
theorem Scr.Ok.cg {S : Scr} (ok : S.Ok) : S.cols ≤ S.grid.length := by rw [ok.g]; exact Nat.le_mul_of_pos_right _ ok.r1
theorem Scr.Ok.g2 {S : Scr} (ok : S.Ok) : S.grid.length ≤ 8192 := by rw [ok.g]; exact Nat.mul_le_mul ok.c2 ok.r2
theorem Scr.Ok.scroll {S : Scr} (ok : S.Ok) : S.scroll.Ok :=
  (ok.keep _).withGrid _ (by rw [Scr.keep_grid]; have := ok.cg; simp; omega)
theorem Scr.Ok.pos {S : Scr} (ok : S.Ok) (x y : Nat) (hx : x ≤ S.cols) : ({ S with x := x, y := y } : Scr).Ok ↔ y < S.rows :=
  ⟨fun h => h.y, fun h => ⟨ok.c1, ok.c2, ok.r1, ok.r2, ok.m, hx, h, ok.g, ok.k, ok.s, ok.a, ok.b, ok.n⟩⟩
theorem Scr.Ok.lineEnd {S : Scr} (ok : S.Ok) : S.lineEnd.Ok := by
  unfold Scr.lineEnd
  split
  · exact (ok.pos 0 (S.y + 1) (Nat.zero_le _)).2 (by assumption)
  · exact Scr.Ok.scroll ((ok.pos 0 S.y (Nat.zero_le _)).2 ok.y)
theorem Scr.scroll_x (S : Scr) : S.scroll.x = S.x := by unfold Scr.scroll Scr.withGrid Scr.keep; split; rfl; split <;> rfl
theorem Scr.scroll_cols (S : Scr) : S.scroll.cols = S.cols := by unfold Scr.scroll Scr.withGrid Scr.keep; split; rfl; split <;> rfl
theorem Scr.lineEnd_x (S : Scr) : S.lineEnd.x = 0 := by unfold Scr.lineEnd; split; rfl; rw [Scr.scroll_x]
theorem Scr.lineEnd_cols (S : Scr) : S.lineEnd.cols = S.cols := by unfold Scr.lineEnd; split; rfl; rw [Scr.scroll_cols]
def Scr.blank (S : Scr) (n f t : Nat) : Scr :=
  if n = 0 then S.clear (S.y * S.cols + min S.x (S.cols - 1)) t else if n = 1 then S.clear f (S.y * S.cols + min S.x (S.cols - 1) + 1) else if n = 2 then S.clear f t else S
def Scr.put (S : Scr) (v : UInt8) : Scr := { S with grid := S.grid.set (S.y * S.cols + S.x) v, x := S.x + 1 }
def Scr.letter (S : Scr) (v : UInt8) : Scr := if S.x = S.cols then S.lineEnd.put v else S.put v
def Scr.plain (S : Scr) (v : UInt8) : Scr :=
  if 32 ≤ v.toNat ∧ v.toNat ≤ 126 then S.letter v
  else if v.toNat = 10 then S.lineEnd
  else if v.toNat = 13 then { S with x := 0 }
  else if v.toNat = 8 then { S with x := S.x - 1 }
  else if v.toNat = 9 then { S with x := max (min ((S.x / 8 + 1) * 8) (S.cols - 1)) S.x }
  else if v.toNat = 12 then { S.clear 0 S.grid.length with x := 0, y := 0 }
  else if v.toNat = 27 then { S with st := 1 }
  else S
def Scr.cmd (S : Scr) (k n m : Nat) : Scr :=
  if k = 65 then { S with y := S.y - max n 1 }
  else if k = 66 then { S with y := min (S.y + max n 1) (S.rows - 1) }
  else if k = 67 then { S with x := min (S.x + max n 1) (S.cols - 1) }
  else if k = 68 then { S with x := S.x - max n 1 }
  else if k = 72 then { S with y := min (max n 1) S.rows - 1, x := min (max m 1) S.cols - 1 }
  else if k = 74 then S.blank n 0 S.grid.length
  else if k = 75 then S.blank n (S.y * S.cols) ((S.y + 1) * S.cols)
  else S
def Scr.told (S : Scr) (v : Nat) : Scr :=
  if 48 ≤ v ∧ v ≤ 57 then (if S.num = 0 then { S with n0 := min (S.n0 * 10 + (v - 48)) 999 } else if S.num = 1 then { S with n1 := min (S.n1 * 10 + (v - 48)) 999 } else S)
  else if v = 59 then { S with num := min (S.num + 1) 2 }
  else ({ S with st := 0 } : Scr).cmd v S.n0 S.n1
def Scr.byte (S : Scr) (v : UInt8) : Scr :=
  if S.st = 1 then (if v.toNat = 91 then { S with st := 2, n0 := 0, n1 := 0, num := 0 } else { S with st := 0 })
  else if S.st = 2 then S.told v.toNat else S.plain v
def Scr.bytes (S : Scr) (l : List UInt8) : Scr := l.foldl Scr.byte S
def zeroScr : Scr := ⟨0, 0, 0, 0, 0, [], [], 0, 0, 0, 0⟩
theorem Scr.Ok.clear {S : Scr} (ok : S.Ok) (a b : Nat) (h : b ≤ S.grid.length) : (S.clear a b).Ok := { ok with g := (clearL_len S.grid a b h).trans ok.g }
theorem Scr.Ok.put {S : Scr} (ok : S.Ok) (v : UInt8) (h : S.x < S.cols) : (S.put v).Ok := { ok with x := h, g := (List.length_set).trans ok.g }
theorem Scr.Ok.pg {S : Scr} (ok : S.Ok) : S.y * S.cols + S.cols ≤ S.grid.length := by rw [ok.g, ← Nat.succ_mul, Nat.mul_comm]; exact Nat.mul_le_mul (Nat.le_refl _) ok.y
theorem Scr.Ok.blank {S : Scr} (ok : S.Ok) (n f t : Nat) (h : t ≤ S.grid.length) : (S.blank n f t).Ok := by
  have h1 := ok.pg
  have h2 := ok.c1
  unfold Scr.blank
  split
  · exact ok.clear _ _ h
  · split
    · exact ok.clear _ _ (by omega)
    · split
      · exact ok.clear _ _ h
      · exact ok
theorem Scr.Ok.plain {S : Scr} (ok : S.Ok) (v : UInt8) : (S.plain v).Ok := by
  have hx := ok.x
  have hc := ok.c1
  have hy := ok.y
  unfold Scr.plain
  split
  · unfold Scr.letter
    split
    · exact ok.lineEnd.put v (by rw [Scr.lineEnd_x, Scr.lineEnd_cols]; exact ok.c1)
    · exact ok.put v (by omega)
  split
  · exact ok.lineEnd
  split
  · exact { ok with x := Nat.zero_le _ }
  split
  · exact { ok with x := (by show S.x - 1 ≤ S.cols; omega) }
  split
  · exact { ok with x := (by show max (min ((S.x / 8 + 1) * 8) (S.cols - 1)) S.x ≤ S.cols; omega) }
  split
  · have := ok.clear 0 S.grid.length (Nat.le_refl _)
    exact { this with x := Nat.zero_le _, y := (by show 0 < S.rows; omega) }
  split
  · exact { ok with s := (by show 1 ≤ 2; omega) }
  · exact ok
theorem Scr.Ok.cmd {S : Scr} (ok : S.Ok) (k n m : Nat) : (S.cmd k n m).Ok := by
  have hx := ok.x
  have hc := ok.c1
  have hy := ok.y
  unfold Scr.cmd
  split
  · exact { ok with y := (by show S.y - max n 1 < S.rows; omega) }
  split
  · exact { ok with y := (by show min (S.y + max n 1) (S.rows - 1) < S.rows; omega) }
  split
  · exact { ok with x := (by show min (S.x + max n 1) (S.cols - 1) ≤ S.cols; omega) }
  split
  · exact { ok with x := (by show S.x - max n 1 ≤ S.cols; omega) }
  split
  · exact { ok with y := (by show min (max n 1) S.rows - 1 < S.rows; omega), x := (by show min (max m 1) S.cols - 1 ≤ S.cols; omega) }
  split
  · exact ok.blank _ _ _ (Nat.le_refl _)
  split
  · exact ok.blank _ _ _ (by have := ok.pg; rw [Nat.succ_mul]; exact this)
  · exact ok
theorem Scr.Ok.told {S : Scr} (ok : S.Ok) (v : Nat) : (S.told v).Ok := by
  unfold Scr.told
  split
  · split
    · exact { ok with a := (by show min _ 999 ≤ 999; omega) }
    split
    · exact { ok with b := (by show min _ 999 ≤ 999; omega) }
    · exact ok
  split
  · exact { ok with n := (by show min _ 2 ≤ 2; omega) }
  · exact Scr.Ok.cmd (S := { S with st := 0 }) { ok with s := (by show 0 ≤ 2; omega) } _ _ _
theorem Scr.Ok.byte {S : Scr} (ok : S.Ok) (v : UInt8) : (S.byte v).Ok := by
  unfold Scr.byte
  split
  · split
    · exact { ok with s := (by show 2 ≤ 2; omega), a := (by show 0 ≤ 999; omega), b := (by show 0 ≤ 999; omega), n := (by show 0 ≤ 2; omega) }
    · exact { ok with s := (by show 0 ≤ 2; omega) }
  split
  · exact ok.told _
  · exact ok.plain _
theorem Scr.Ok.bytes {S : Scr} (ok : S.Ok) (l : List UInt8) : (S.bytes l).Ok := by
  unfold Scr.bytes
  induction l generalizing S with
  | nil => exact ok
  | cons v l ih => exact ih (ok.byte v)
def Scr.row (S : Scr) (y : Int) : List UInt8 := if 0 ≤ y ∧ y < S.rows then (S.grid.drop (y.toNat * S.cols)).take S.cols else []
abbrev scrC (S : Scr) (vc vk : T) : List T := [I64 S.cols, I64 S.rows, I64 S.most, I64 S.x, I64 S.y, vc, vk, I64 S.st, I64 S.n0, I64 S.n1, I64 S.num]
abbrev scrT (S : Scr) : T := .agg (scrC S (.islc (encL cY S.grid) S.grid.length none) (.islc (encL cStr S.kept) S.kept.length none))
abbrev scH (S : Scr) : Hp := [.c (scrC S (.slc 1 0 S.grid.length 1 none) (.slc 2 0 S.kept.length 1 none)), .c (encL cY S.grid), .c (encL cStr S.kept)]
abbrev scH3 (S : Scr) : Hp := [.c (scrC S (.slc 1 0 S.grid.length 1 none) (.slc 3 0 S.kept.length 1 none)), .c (encL cY S.grid), .d, .c (encL cStr S.kept)]
theorem scr_pure (S : Scr) : T.pureL (scrC S (.islc (encL cY S.grid) S.grid.length none) (.islc (encL cStr S.kept) S.kept.length none)) = true := by simp only [T.pureL, T.pure, encL_pure]; rfl
end
section
open Go.RowKit
set_option maxRecDepth 100000
theorem tyOk_of {P : Program} {t sz by_ : Nat} {zs : List Value} {zero : List T} {k : Kd} {eq : Bool} {D : TypeDesc} (h1 : ((P.info? t).map fun I => (I.size, I.bytes, I.zero.map fun z => z.cells.toList)) = some (sz, by_, some zs)) (h2 : P.underlying t = some D) (hz : zs.map T.v = zero) (hk : kdOk D k) (hl : zs.length = sz)
    (ha : (k.agg || sz == 1) = true) (hf : (match D with | .struct fs => fs.toList.all fun f => (P.info? f.type).isSome | _ => true) = true)
    (hag : ((P.info? t).bind fun I => I.zero.map fun z => z.isAggB) = some k.agg) (he : (!eq || (!P.stoodInHeld t && !P.eqGuardType P.depth t && (match D with | .struct fs => fs.toList.all fun f => f.name != "_" | _ => false))) = true) : TyOk P t ⟨sz, by_, zero, k, eq⟩ := by
  subst hz
  rw [Option.map_eq_some_iff] at h1
  obtain ⟨I, h3, h4⟩ := h1
  injection h4 with h4 h5; injection h5 with h5 h6
  rw [Option.map_eq_some_iff] at h6
  obtain ⟨z, h6, h7⟩ := h6
  refine ⟨⟨I, h3, h4, h5, z, h6, by rw [h7]⟩, ⟨D, h2, hk⟩, by simpa using hl, fun fs hfs => ?_, fun hag => ?_, ⟨I, z, h3, h6, by rw [h3, Option.bind_some, h6] at hag; simpa using hag⟩, fun he' => ?_⟩
  · rw [h2] at hfs; injection hfs with hfs; subst hfs; exact hf
  · rw [hag] at ha; simpa using ha
  · simp only at he'
    subst he'
    simp only [Bool.not_true, Bool.false_or, Bool.and_eq_true, Bool.not_eq_true'] at he
    obtain ⟨⟨e1, e2⟩, e3⟩ := he
    refine ⟨e1, e2, ?_⟩
    cases D <;> first | (cases e3; done) | skip
    rename_i fs
    refine ⟨fs, h2, fun f hf => ?_⟩
    rw [List.all_eq_true] at e3
    simpa using e3 f hf
theorem ty_1 : TyOk Tryd.prog 1 ⟨1, 8, [.v (.nilFunc)], .fn, false⟩ := tyOk_of (zs := [.nilFunc]) (by kernel_rfl) Tryd.underlying1 rfl trivial rfl rfl (by kernel_rfl) (by kernel_rfl) (by kernel_rfl)
theorem ty_2 : TyOk Tryd.prog 2 ⟨1, 8, [.v (.int .i64 0)], .int .i64, false⟩ := tyOk_of (zs := [.int .i64 0]) (by kernel_rfl) Tryd.underlying2 rfl rfl rfl rfl (by kernel_rfl) (by kernel_rfl) (by kernel_rfl)
theorem ty_3 : TyOk Tryd.prog 3 ⟨1, 8, [.v (.int .i64 0)], .int .i64, false⟩ := tyOk_of (zs := [.int .i64 0]) (by kernel_rfl) Tryd.underlying3 rfl rfl rfl rfl (by kernel_rfl) (by kernel_rfl) (by kernel_rfl)
theorem ty_4 : TyOk Tryd.prog 4 ⟨1, 1, [.v (.bool false)], .bool, false⟩ := tyOk_of (zs := [.bool false]) (by kernel_rfl) Tryd.underlying4 rfl trivial rfl rfl (by kernel_rfl) (by kernel_rfl) (by kernel_rfl)
theorem ty_5 : TyOk Tryd.prog 5 ⟨1, 1, [.v (.int .u8 0)], .int .u8, false⟩ := tyOk_of (zs := [.int .u8 0]) (by kernel_rfl) Tryd.underlying5 rfl rfl rfl rfl (by kernel_rfl) (by kernel_rfl) (by kernel_rfl)
theorem ty_6 : TyOk Tryd.prog 6 ⟨1, 1, [.v (.int .u8 0)], .int .u8, false⟩ := tyOk_of (zs := [.int .u8 0]) (by kernel_rfl) Tryd.underlying6 rfl rfl rfl rfl (by kernel_rfl) (by kernel_rfl) (by kernel_rfl)
theorem ty_7 : TyOk Tryd.prog 7 ⟨4, 24, [.v (.int .i64 0), .v (.int .i64 0), .v (.bool false), .v (.int .u8 0)], .st [(0, 2), (1, 3), (2, 4), (3, 6)], false⟩ := tyOk_of (zs := [.int .i64 0, .int .i64 0, .bool false, .int .u8 0]) (by kernel_rfl) Tryd.underlying7 rfl rfl rfl rfl (by kernel_rfl) (by kernel_rfl) (by kernel_rfl)
theorem ty_8 : TyOk Tryd.prog 8 ⟨4, 24, [.v (.int .i64 0), .v (.int .i64 0), .v (.bool false), .v (.int .u8 0)], .st [(0, 2), (1, 3), (2, 4), (3, 6)], false⟩ := tyOk_of (zs := [.int .i64 0, .int .i64 0, .bool false, .int .u8 0]) (by kernel_rfl) Tryd.underlying8 rfl rfl rfl rfl (by kernel_rfl) (by kernel_rfl) (by kernel_rfl)
theorem ty_9 : TyOk Tryd.prog 9 ⟨1, 16, [.v (.string ⟨#[]⟩)], .str, false⟩ := tyOk_of (zs := [.string ⟨#[]⟩]) (by kernel_rfl) Tryd.underlying9 rfl trivial rfl rfl (by kernel_rfl) (by kernel_rfl) (by kernel_rfl)
theorem ty_10 : TyOk Tryd.prog 10 ⟨1, 16, [.v (.string ⟨#[]⟩)], .str, false⟩ := tyOk_of (zs := [.string ⟨#[]⟩]) (by kernel_rfl) Tryd.underlying10 rfl trivial rfl rfl (by kernel_rfl) (by kernel_rfl) (by kernel_rfl)
theorem ty_11 : TyOk Tryd.prog 11 ⟨1, 16, [.v (.string ⟨#[]⟩)], .str, false⟩ := tyOk_of (zs := [.string ⟨#[]⟩]) (by kernel_rfl) Tryd.underlying11 rfl trivial rfl rfl (by kernel_rfl) (by kernel_rfl) (by kernel_rfl)
theorem ty_12 : TyOk Tryd.prog 12 ⟨1, 8, [.v (.int .u64 0)], .int .u64, false⟩ := tyOk_of (zs := [.int .u64 0]) (by kernel_rfl) Tryd.underlying12 rfl rfl rfl rfl (by kernel_rfl) (by kernel_rfl) (by kernel_rfl)
theorem ty_13 : TyOk Tryd.prog 13 ⟨2, 24, [.v (.string ⟨#[]⟩), .v (.int .u64 0)], .st [(0, 9), (1, 12)], false⟩ := tyOk_of (zs := [.string ⟨#[]⟩, .int .u64 0]) (by kernel_rfl) Tryd.underlying13 rfl rfl rfl rfl (by kernel_rfl) (by kernel_rfl) (by kernel_rfl)
theorem ty_14 : TyOk Tryd.prog 14 ⟨2, 24, [.v (.string ⟨#[]⟩), .v (.int .u64 0)], .st [(0, 9), (1, 12)], false⟩ := tyOk_of (zs := [.string ⟨#[]⟩, .int .u64 0]) (by kernel_rfl) Tryd.underlying14 rfl rfl rfl rfl (by kernel_rfl) (by kernel_rfl) (by kernel_rfl)
theorem ty_15 : TyOk Tryd.prog 15 ⟨1, 8, [.v (.pointer none)], .ptr 257, false⟩ := tyOk_of (zs := [.pointer none]) (by kernel_rfl) Tryd.underlying15 rfl rfl rfl rfl (by kernel_rfl) (by kernel_rfl) (by kernel_rfl)
theorem ty_16 : TyOk Tryd.prog 16 ⟨1, 8, [.v (.pointer none)], .ptr 260, false⟩ := tyOk_of (zs := [.pointer none]) (by kernel_rfl) Tryd.underlying16 rfl rfl rfl rfl (by kernel_rfl) (by kernel_rfl) (by kernel_rfl)
theorem ty_17 : TyOk Tryd.prog 17 ⟨1, 8, [.v (.pointer none)], .ptr 268, false⟩ := tyOk_of (zs := [.pointer none]) (by kernel_rfl) Tryd.underlying17 rfl rfl rfl rfl (by kernel_rfl) (by kernel_rfl) (by kernel_rfl)
theorem ty_18 : TyOk Tryd.prog 18 ⟨1, 8, [.v (.pointer none)], .st [(0, 17)], false⟩ := tyOk_of (zs := [.pointer none]) (by kernel_rfl) Tryd.underlying18 rfl rfl rfl rfl (by kernel_rfl) (by kernel_rfl) (by kernel_rfl)
theorem ty_19 : TyOk Tryd.prog 19 ⟨1, 8, [.v (.pointer none)], .st [(0, 17)], false⟩ := tyOk_of (zs := [.pointer none]) (by kernel_rfl) Tryd.underlying19 rfl rfl rfl rfl (by kernel_rfl) (by kernel_rfl) (by kernel_rfl)
theorem ty_21 : TyOk Tryd.prog 21 ⟨1, 4, [.v (.int .i32 0)], .int .i32, false⟩ := tyOk_of (zs := [.int .i32 0]) (by kernel_rfl) Tryd.underlying21 rfl rfl rfl rfl (by kernel_rfl) (by kernel_rfl) (by kernel_rfl)
theorem ty_22 : TyOk Tryd.prog 22 ⟨1, 24, [.v (.slice none 0 0)], .sl 43, false⟩ := tyOk_of (zs := [.slice none 0 0]) (by kernel_rfl) Tryd.underlying22 rfl rfl rfl rfl (by kernel_rfl) (by kernel_rfl) (by kernel_rfl)
theorem ty_23 : TyOk Tryd.prog 23 ⟨1, 8, [.v (.nilFunc)], .fn, false⟩ := tyOk_of (zs := [.nilFunc]) (by kernel_rfl) Tryd.underlying23 rfl trivial rfl rfl (by kernel_rfl) (by kernel_rfl) (by kernel_rfl)
theorem ty_24 : TyOk Tryd.prog 24 ⟨1, 8, [.v (.nilFunc)], .fn, false⟩ := tyOk_of (zs := [.nilFunc]) (by kernel_rfl) Tryd.underlying24 rfl trivial rfl rfl (by kernel_rfl) (by kernel_rfl) (by kernel_rfl)
theorem ty_25 : TyOk Tryd.prog 25 ⟨1, 24, [.v (.slice none 0 0)], .sl 5, false⟩ := tyOk_of (zs := [.slice none 0 0]) (by kernel_rfl) Tryd.underlying25 rfl rfl rfl rfl (by kernel_rfl) (by kernel_rfl) (by kernel_rfl)
theorem ty_26 : TyOk Tryd.prog 26 ⟨1, 24, [.v (.slice none 0 0)], .sl 9, false⟩ := tyOk_of (zs := [.slice none 0 0]) (by kernel_rfl) Tryd.underlying26 rfl rfl rfl rfl (by kernel_rfl) (by kernel_rfl) (by kernel_rfl)
theorem ty_27 : TyOk Tryd.prog 27 ⟨2, 16, [.v (.int .i64 0), .v (.int .i64 0)], .arr 2 3, false⟩ := tyOk_of (zs := [.int .i64 0, .int .i64 0]) (by kernel_rfl) Tryd.underlying27 rfl ⟨rfl, rfl⟩ rfl rfl (by kernel_rfl) (by kernel_rfl) (by kernel_rfl)
theorem ty_28 : TyOk Tryd.prog 28 ⟨11, 120, [.v (.int .i64 0), .v (.int .i64 0), .v (.int .i64 0), .v (.int .i64 0), .v (.int .i64 0), .v (.slice none 0 0), .v (.slice none 0 0), .v (.int .i64 0), .v (.int .i64 0), .v (.int .i64 0), .v (.int .i64 0)], .st [(0, 3), (1, 3), (2, 3), (3, 3), (4, 3), (5, 25), (6, 26), (7, 3), (8, 27), (10, 3)], false⟩ := tyOk_of (zs := [.int .i64 0, .int .i64 0, .int .i64 0, .int .i64 0, .int .i64 0, .slice none 0 0, .slice none 0 0, .int .i64 0, .int .i64 0, .int .i64 0, .int .i64 0]) (by kernel_rfl) Tryd.underlying28 rfl rfl rfl rfl (by kernel_rfl) (by kernel_rfl) (by kernel_rfl)
theorem ty_29 : TyOk Tryd.prog 29 ⟨11, 120, [.v (.int .i64 0), .v (.int .i64 0), .v (.int .i64 0), .v (.int .i64 0), .v (.int .i64 0), .v (.slice none 0 0), .v (.slice none 0 0), .v (.int .i64 0), .v (.int .i64 0), .v (.int .i64 0), .v (.int .i64 0)], .st [(0, 3), (1, 3), (2, 3), (3, 3), (4, 3), (5, 25), (6, 26), (7, 3), (8, 27), (10, 3)], false⟩ := tyOk_of (zs := [.int .i64 0, .int .i64 0, .int .i64 0, .int .i64 0, .int .i64 0, .slice none 0 0, .slice none 0 0, .int .i64 0, .int .i64 0, .int .i64 0, .int .i64 0]) (by kernel_rfl) Tryd.underlying29 rfl rfl rfl rfl (by kernel_rfl) (by kernel_rfl) (by kernel_rfl)
theorem ty_30 : TyOk Tryd.prog 30 ⟨16, 168, [.v (.bool false), .v (.int .i64 0), .v (.int .i64 0), .v (.int .i64 0), .v (.int .i64 0), .v (.int .i64 0), .v (.int .i64 0), .v (.int .i64 0), .v (.int .i64 0), .v (.slice none 0 0), .v (.slice none 0 0), .v (.int .i64 0), .v (.int .i64 0), .v (.int .i64 0), .v (.int .i64 0), .v (.string ⟨#[]⟩)], .st [(0, 4), (1, 2), (2, 2), (3, 2), (4, 29), (15, 9)], false⟩ := tyOk_of (zs := [.bool false, .int .i64 0, .int .i64 0, .int .i64 0, .int .i64 0, .int .i64 0, .int .i64 0, .int .i64 0, .int .i64 0, .slice none 0 0, .slice none 0 0, .int .i64 0, .int .i64 0, .int .i64 0, .int .i64 0, .string ⟨#[]⟩]) (by kernel_rfl) Tryd.underlying30 rfl rfl rfl rfl (by kernel_rfl) (by kernel_rfl) (by kernel_rfl)
theorem ty_31 : TyOk Tryd.prog 31 ⟨16, 168, [.v (.bool false), .v (.int .i64 0), .v (.int .i64 0), .v (.int .i64 0), .v (.int .i64 0), .v (.int .i64 0), .v (.int .i64 0), .v (.int .i64 0), .v (.int .i64 0), .v (.slice none 0 0), .v (.slice none 0 0), .v (.int .i64 0), .v (.int .i64 0), .v (.int .i64 0), .v (.int .i64 0), .v (.string ⟨#[]⟩)], .st [(0, 4), (1, 2), (2, 2), (3, 2), (4, 29), (15, 9)], false⟩ := tyOk_of (zs := [.bool false, .int .i64 0, .int .i64 0, .int .i64 0, .int .i64 0, .int .i64 0, .int .i64 0, .int .i64 0, .int .i64 0, .slice none 0 0, .slice none 0 0, .int .i64 0, .int .i64 0, .int .i64 0, .int .i64 0, .string ⟨#[]⟩]) (by kernel_rfl) Tryd.underlying31 rfl rfl rfl rfl (by kernel_rfl) (by kernel_rfl) (by kernel_rfl)
theorem ty_32 : TyOk Tryd.prog 32 ⟨1, 24, [.v (.slice none 0 0)], .sl 88, false⟩ := tyOk_of (zs := [.slice none 0 0]) (by kernel_rfl) Tryd.underlying32 rfl rfl rfl rfl (by kernel_rfl) (by kernel_rfl) (by kernel_rfl)
theorem ty_33 : TyOk Tryd.prog 33 ⟨1, 8, [.v (.int .i64 0)], .int .i64, false⟩ := tyOk_of (zs := [.int .i64 0]) (by kernel_rfl) Tryd.underlying33 rfl rfl rfl rfl (by kernel_rfl) (by kernel_rfl) (by kernel_rfl)
theorem ty_35 : TyOk Tryd.prog 35 ⟨1, 8, [.v (.nilFunc)], .fn, false⟩ := tyOk_of (zs := [.nilFunc]) (by kernel_rfl) Tryd.underlying35 rfl trivial rfl rfl (by kernel_rfl) (by kernel_rfl) (by kernel_rfl)
theorem ty_37 : TyOk Tryd.prog 37 ⟨1, 8, [.v (.nilFunc)], .fn, false⟩ := tyOk_of (zs := [.nilFunc]) (by kernel_rfl) Tryd.underlying37 rfl trivial rfl rfl (by kernel_rfl) (by kernel_rfl) (by kernel_rfl)
theorem ty_38 : TyOk Tryd.prog 38 ⟨1, 4, [.v (.int .u32 0)], .int .u32, false⟩ := tyOk_of (zs := [.int .u32 0]) (by kernel_rfl) Tryd.underlying38 rfl rfl rfl rfl (by kernel_rfl) (by kernel_rfl) (by kernel_rfl)
theorem ty_39 : TyOk Tryd.prog 39 ⟨1, 4, [.v (.int .u32 0)], .int .u32, false⟩ := tyOk_of (zs := [.int .u32 0]) (by kernel_rfl) Tryd.underlying39 rfl rfl rfl rfl (by kernel_rfl) (by kernel_rfl) (by kernel_rfl)
theorem ty_40 : TyOk Tryd.prog 40 ⟨1, 8, [.v (.int .u64 0)], .int .u64, false⟩ := tyOk_of (zs := [.int .u64 0]) (by kernel_rfl) Tryd.underlying40 rfl rfl rfl rfl (by kernel_rfl) (by kernel_rfl) (by kernel_rfl)
theorem ty_41 : TyOk Tryd.prog 41 ⟨1, 2, [.v (.int .u16 0)], .int .u16, false⟩ := tyOk_of (zs := [.int .u16 0]) (by kernel_rfl) Tryd.underlying41 rfl rfl rfl rfl (by kernel_rfl) (by kernel_rfl) (by kernel_rfl)
theorem ty_42 : TyOk Tryd.prog 42 ⟨6, 32, [.v (.int .u8 0), .v (.string ⟨#[]⟩), .v (.int .u8 0), .v (.int .u8 0), .v (.int .u16 0), .v (.int .u16 0)], .st [(0, 5), (1, 9), (2, 5), (3, 5), (4, 41), (5, 41)], true⟩ := tyOk_of (zs := [.int .u8 0, .string ⟨#[]⟩, .int .u8 0, .int .u8 0, .int .u16 0, .int .u16 0]) (by kernel_rfl) Tryd.underlying42 rfl rfl rfl rfl (by kernel_rfl) (by kernel_rfl) (by kernel_rfl)
theorem ty_43 : TyOk Tryd.prog 43 ⟨6, 32, [.v (.int .u8 0), .v (.string ⟨#[]⟩), .v (.int .u8 0), .v (.int .u8 0), .v (.int .u16 0), .v (.int .u16 0)], .st [(0, 5), (1, 9), (2, 5), (3, 5), (4, 41), (5, 41)], true⟩ := tyOk_of (zs := [.int .u8 0, .string ⟨#[]⟩, .int .u8 0, .int .u8 0, .int .u16 0, .int .u16 0]) (by kernel_rfl) Tryd.underlying43 rfl rfl rfl rfl (by kernel_rfl) (by kernel_rfl) (by kernel_rfl)
theorem ty_44 : TyOk Tryd.prog 44 ⟨1, 8, [.v (.nilFunc)], .fn, false⟩ := tyOk_of (zs := [.nilFunc]) (by kernel_rfl) Tryd.underlying44 rfl trivial rfl rfl (by kernel_rfl) (by kernel_rfl) (by kernel_rfl)
theorem ty_45 : TyOk Tryd.prog 45 ⟨1, 8, [.v (.nilFunc)], .fn, false⟩ := tyOk_of (zs := [.nilFunc]) (by kernel_rfl) Tryd.underlying45 rfl trivial rfl rfl (by kernel_rfl) (by kernel_rfl) (by kernel_rfl)
theorem ty_47 : TyOk Tryd.prog 47 ⟨1, 8, [.v (.nilFunc)], .fn, false⟩ := tyOk_of (zs := [.nilFunc]) (by kernel_rfl) Tryd.underlying47 rfl trivial rfl rfl (by kernel_rfl) (by kernel_rfl) (by kernel_rfl)
theorem ty_48 : TyOk Tryd.prog 48 ⟨1, 24, [.v (.slice none 0 0)], .sl 2, false⟩ := tyOk_of (zs := [.slice none 0 0]) (by kernel_rfl) Tryd.underlying48 rfl rfl rfl rfl (by kernel_rfl) (by kernel_rfl) (by kernel_rfl)
theorem ty_49 : TyOk Tryd.prog 49 ⟨6, 88, [.v (.int .i64 0), .v (.int .i64 0), .v (.int .i64 0), .v (.slice none 0 0), .v (.string ⟨#[]⟩), .v (.slice none 0 0)], .st [(0, 3), (1, 3), (2, 3), (3, 48), (4, 9), (5, 48)], false⟩ := tyOk_of (zs := [.int .i64 0, .int .i64 0, .int .i64 0, .slice none 0 0, .string ⟨#[]⟩, .slice none 0 0]) (by kernel_rfl) Tryd.underlying49 rfl rfl rfl rfl (by kernel_rfl) (by kernel_rfl) (by kernel_rfl)
theorem ty_50 : TyOk Tryd.prog 50 ⟨6, 88, [.v (.int .i64 0), .v (.int .i64 0), .v (.int .i64 0), .v (.slice none 0 0), .v (.string ⟨#[]⟩), .v (.slice none 0 0)], .st [(0, 3), (1, 3), (2, 3), (3, 48), (4, 9), (5, 48)], false⟩ := tyOk_of (zs := [.int .i64 0, .int .i64 0, .int .i64 0, .slice none 0 0, .string ⟨#[]⟩, .slice none 0 0]) (by kernel_rfl) Tryd.underlying50 rfl rfl rfl rfl (by kernel_rfl) (by kernel_rfl) (by kernel_rfl)
theorem ty_51 : TyOk Tryd.prog 51 ⟨1, 8, [.v (.nilFunc)], .fn, false⟩ := tyOk_of (zs := [.nilFunc]) (by kernel_rfl) Tryd.underlying51 rfl trivial rfl rfl (by kernel_rfl) (by kernel_rfl) (by kernel_rfl)
theorem ty_53 : TyOk Tryd.prog 53 ⟨1, 8, [.v (.nilFunc)], .fn, false⟩ := tyOk_of (zs := [.nilFunc]) (by kernel_rfl) Tryd.underlying53 rfl trivial rfl rfl (by kernel_rfl) (by kernel_rfl) (by kernel_rfl)
theorem ty_54 : TyOk Tryd.prog 54 ⟨1, 8, [.v (.nilFunc)], .fn, false⟩ := tyOk_of (zs := [.nilFunc]) (by kernel_rfl) Tryd.underlying54 rfl trivial rfl rfl (by kernel_rfl) (by kernel_rfl) (by kernel_rfl)
theorem ty_56 : TyOk Tryd.prog 56 ⟨1, 8, [.v (.nilFunc)], .fn, false⟩ := tyOk_of (zs := [.nilFunc]) (by kernel_rfl) Tryd.underlying56 rfl trivial rfl rfl (by kernel_rfl) (by kernel_rfl) (by kernel_rfl)
theorem ty_57 : TyOk Tryd.prog 57 ⟨1, 8, [.v (.nilFunc)], .fn, false⟩ := tyOk_of (zs := [.nilFunc]) (by kernel_rfl) Tryd.underlying57 rfl trivial rfl rfl (by kernel_rfl) (by kernel_rfl) (by kernel_rfl)
theorem ty_58 : TyOk Tryd.prog 58 ⟨1, 8, [.v (.nilFunc)], .fn, false⟩ := tyOk_of (zs := [.nilFunc]) (by kernel_rfl) Tryd.underlying58 rfl trivial rfl rfl (by kernel_rfl) (by kernel_rfl) (by kernel_rfl)
theorem ty_65 : TyOk Tryd.prog 65 ⟨4, 32, [.v (.int .i64 0), .v (.int .i64 0), .v (.int .i64 0), .v (.int .i64 0)], .st [(0, 3), (1, 3), (2, 3), (3, 3)], true⟩ := tyOk_of (zs := [.int .i64 0, .int .i64 0, .int .i64 0, .int .i64 0]) (by kernel_rfl) Tryd.underlying65 rfl rfl rfl rfl (by kernel_rfl) (by kernel_rfl) (by kernel_rfl)
theorem ty_66 : TyOk Tryd.prog 66 ⟨4, 32, [.v (.int .i64 0), .v (.int .i64 0), .v (.int .i64 0), .v (.int .i64 0)], .st [(0, 3), (1, 3), (2, 3), (3, 3)], true⟩ := tyOk_of (zs := [.int .i64 0, .int .i64 0, .int .i64 0, .int .i64 0]) (by kernel_rfl) Tryd.underlying66 rfl rfl rfl rfl (by kernel_rfl) (by kernel_rfl) (by kernel_rfl)
theorem ty_67 : TyOk Tryd.prog 67 ⟨1, 24, [.v (.slice none 0 0)], .sl 3, false⟩ := tyOk_of (zs := [.slice none 0 0]) (by kernel_rfl) Tryd.underlying67 rfl rfl rfl rfl (by kernel_rfl) (by kernel_rfl) (by kernel_rfl)
theorem ty_68 : TyOk Tryd.prog 68 ⟨2, 16, [.v (.int .i64 0), .v (.int .i64 0)], .st [(0, 3), (1, 3)], true⟩ := tyOk_of (zs := [.int .i64 0, .int .i64 0]) (by kernel_rfl) Tryd.underlying68 rfl rfl rfl rfl (by kernel_rfl) (by kernel_rfl) (by kernel_rfl)
theorem ty_69 : TyOk Tryd.prog 69 ⟨2, 16, [.v (.int .i64 0), .v (.int .i64 0)], .st [(0, 3), (1, 3)], true⟩ := tyOk_of (zs := [.int .i64 0, .int .i64 0]) (by kernel_rfl) Tryd.underlying69 rfl rfl rfl rfl (by kernel_rfl) (by kernel_rfl) (by kernel_rfl)
theorem ty_72 : TyOk Tryd.prog 72 ⟨1, 24, [.v (.slice none 0 0)], .sl 50, false⟩ := tyOk_of (zs := [.slice none 0 0]) (by kernel_rfl) Tryd.underlying72 rfl rfl rfl rfl (by kernel_rfl) (by kernel_rfl) (by kernel_rfl)
theorem ty_74 : TyOk Tryd.prog 74 ⟨3, 24, [.v (.int .u32 0), .v (.int .i64 0), .v (.int .i64 0)], .st [(0, 39), (1, 3), (2, 3)], true⟩ := tyOk_of (zs := [.int .u32 0, .int .i64 0, .int .i64 0]) (by kernel_rfl) Tryd.underlying74 rfl rfl rfl rfl (by kernel_rfl) (by kernel_rfl) (by kernel_rfl)
theorem ty_75 : TyOk Tryd.prog 75 ⟨3, 24, [.v (.int .u32 0), .v (.int .i64 0), .v (.int .i64 0)], .st [(0, 39), (1, 3), (2, 3)], true⟩ := tyOk_of (zs := [.int .u32 0, .int .i64 0, .int .i64 0]) (by kernel_rfl) Tryd.underlying75 rfl rfl rfl rfl (by kernel_rfl) (by kernel_rfl) (by kernel_rfl)
theorem ty_76 : TyOk Tryd.prog 76 ⟨1, 8, [.v (.map none)], .mp 2 127, false⟩ := tyOk_of (zs := [.map none]) (by kernel_rfl) Tryd.underlying76 rfl ⟨rfl, rfl⟩ rfl rfl (by kernel_rfl) (by kernel_rfl) (by kernel_rfl)
theorem ty_77 : TyOk Tryd.prog 77 ⟨1, 8, [.v (.map none)], .mp 2 130, false⟩ := tyOk_of (zs := [.map none]) (by kernel_rfl) Tryd.underlying77 rfl ⟨rfl, rfl⟩ rfl rfl (by kernel_rfl) (by kernel_rfl) (by kernel_rfl)
theorem ty_78 : TyOk Tryd.prog 78 ⟨4, 32, [.v (.bool false), .v (.int .i64 0), .v (.int .i64 0), .v (.int .i64 0)], .st [(0, 4), (1, 2), (2, 2), (3, 2)], true⟩ := tyOk_of (zs := [.bool false, .int .i64 0, .int .i64 0, .int .i64 0]) (by kernel_rfl) Tryd.underlying78 rfl rfl rfl rfl (by kernel_rfl) (by kernel_rfl) (by kernel_rfl)
theorem ty_79 : TyOk Tryd.prog 79 ⟨4, 32, [.v (.bool false), .v (.int .i64 0), .v (.int .i64 0), .v (.int .i64 0)], .st [(0, 4), (1, 2), (2, 2), (3, 2)], true⟩ := tyOk_of (zs := [.bool false, .int .i64 0, .int .i64 0, .int .i64 0]) (by kernel_rfl) Tryd.underlying79 rfl rfl rfl rfl (by kernel_rfl) (by kernel_rfl) (by kernel_rfl)
theorem ty_80 : TyOk Tryd.prog 80 ⟨11, 88, [.v (.int .u32 0), .v (.int .i64 0), .v (.int .i64 0), .v (.int .i64 0), .v (.int .i64 0), .v (.map none), .v (.map none), .v (.bool false), .v (.int .i64 0), .v (.int .i64 0), .v (.int .i64 0)], .st [(0, 75), (3, 3), (4, 3), (5, 76), (6, 77), (7, 79)], false⟩ := tyOk_of (zs := [.int .u32 0, .int .i64 0, .int .i64 0, .int .i64 0, .int .i64 0, .map none, .map none, .bool false, .int .i64 0, .int .i64 0, .int .i64 0]) (by kernel_rfl) Tryd.underlying80 rfl rfl rfl rfl (by kernel_rfl) (by kernel_rfl) (by kernel_rfl)
theorem ty_81 : TyOk Tryd.prog 81 ⟨11, 88, [.v (.int .u32 0), .v (.int .i64 0), .v (.int .i64 0), .v (.int .i64 0), .v (.int .i64 0), .v (.map none), .v (.map none), .v (.bool false), .v (.int .i64 0), .v (.int .i64 0), .v (.int .i64 0)], .st [(0, 75), (3, 3), (4, 3), (5, 76), (6, 77), (7, 79)], false⟩ := tyOk_of (zs := [.int .u32 0, .int .i64 0, .int .i64 0, .int .i64 0, .int .i64 0, .map none, .map none, .bool false, .int .i64 0, .int .i64 0, .int .i64 0]) (by kernel_rfl) Tryd.underlying81 rfl rfl rfl rfl (by kernel_rfl) (by kernel_rfl) (by kernel_rfl)
theorem ty_84 : TyOk Tryd.prog 84 ⟨1, 8, [.v (.map none)], .mp 2 4, false⟩ := tyOk_of (zs := [.map none]) (by kernel_rfl) Tryd.underlying84 rfl ⟨rfl, rfl⟩ rfl rfl (by kernel_rfl) (by kernel_rfl) (by kernel_rfl)
theorem ty_86 : TyOk Tryd.prog 86 ⟨1, 8, [.v (.nilFunc)], .fn, false⟩ := tyOk_of (zs := [.nilFunc]) (by kernel_rfl) Tryd.underlying86 rfl trivial rfl rfl (by kernel_rfl) (by kernel_rfl) (by kernel_rfl)
theorem ty_87 : TyOk Tryd.prog 87 ⟨4, 72, [.v (.int .i64 0), .v (.slice none 0 0), .v (.string ⟨#[]⟩), .v (.slice none 0 0)], .st [(0, 3), (1, 48), (2, 9), (3, 48)], false⟩ := tyOk_of (zs := [.int .i64 0, .slice none 0 0, .string ⟨#[]⟩, .slice none 0 0]) (by kernel_rfl) Tryd.underlying87 rfl rfl rfl rfl (by kernel_rfl) (by kernel_rfl) (by kernel_rfl)
theorem ty_88 : TyOk Tryd.prog 88 ⟨4, 72, [.v (.int .i64 0), .v (.slice none 0 0), .v (.string ⟨#[]⟩), .v (.slice none 0 0)], .st [(0, 3), (1, 48), (2, 9), (3, 48)], false⟩ := tyOk_of (zs := [.int .i64 0, .slice none 0 0, .string ⟨#[]⟩, .slice none 0 0]) (by kernel_rfl) Tryd.underlying88 rfl rfl rfl rfl (by kernel_rfl) (by kernel_rfl) (by kernel_rfl)
theorem ty_89 : TyOk Tryd.prog 89 ⟨1, 8, [.v (.map none)], .mp 39 4, false⟩ := tyOk_of (zs := [.map none]) (by kernel_rfl) Tryd.underlying89 rfl ⟨rfl, rfl⟩ rfl rfl (by kernel_rfl) (by kernel_rfl) (by kernel_rfl)
theorem ty_90 : TyOk Tryd.prog 90 ⟨1, 24, [.v (.slice none 0 0)], .sl 39, false⟩ := tyOk_of (zs := [.slice none 0 0]) (by kernel_rfl) Tryd.underlying90 rfl rfl rfl rfl (by kernel_rfl) (by kernel_rfl) (by kernel_rfl)
theorem ty_99 : TyOk Tryd.prog 99 ⟨1, 8, [.v (.nilFunc)], .fn, false⟩ := tyOk_of (zs := [.nilFunc]) (by kernel_rfl) Tryd.underlying99 rfl trivial rfl rfl (by kernel_rfl) (by kernel_rfl) (by kernel_rfl)
theorem ty_101 : TyOk Tryd.prog 101 ⟨1, 8, [.v (.map none)], .mp 3 99, false⟩ := tyOk_of (zs := [.map none]) (by kernel_rfl) Tryd.underlying101 rfl ⟨rfl, rfl⟩ rfl rfl (by kernel_rfl) (by kernel_rfl) (by kernel_rfl)
theorem ty_108 : TyOk Tryd.prog 108 ⟨1, 8, [.v (.pointer none)], .ptr 110, false⟩ := tyOk_of (zs := [.pointer none]) (by kernel_rfl) Tryd.underlying108 rfl rfl rfl rfl (by kernel_rfl) (by kernel_rfl) (by kernel_rfl)
theorem ty_109 : TyOk Tryd.prog 109 ⟨2, 32, [.v (.pointer none), .v (.slice none 0 0)], .st [(0, 108), (1, 25)], false⟩ := tyOk_of (zs := [.pointer none, .slice none 0 0]) (by kernel_rfl) Tryd.underlying109 rfl rfl rfl rfl (by kernel_rfl) (by kernel_rfl) (by kernel_rfl)
theorem ty_110 : TyOk Tryd.prog 110 ⟨2, 32, [.v (.pointer none), .v (.slice none 0 0)], .st [(0, 108), (1, 25)], false⟩ := tyOk_of (zs := [.pointer none, .slice none 0 0]) (by kernel_rfl) Tryd.underlying110 rfl rfl rfl rfl (by kernel_rfl) (by kernel_rfl) (by kernel_rfl)
theorem ty_120 : TyOk Tryd.prog 120 ⟨12, 112, [.v (.int .u32 0), .v (.int .i64 0), .v (.int .i64 0), .v (.int .i64 0), .v (.int .i64 0), .v (.map none), .v (.map none), .v (.bool false), .v (.int .i64 0), .v (.int .i64 0), .v (.int .i64 0), .v (.slice none 0 0)], .st [(0, 81), (11, 32)], false⟩ := tyOk_of (zs := [.int .u32 0, .int .i64 0, .int .i64 0, .int .i64 0, .int .i64 0, .map none, .map none, .bool false, .int .i64 0, .int .i64 0, .int .i64 0, .slice none 0 0]) (by kernel_rfl) Tryd.underlying120 rfl rfl rfl rfl (by kernel_rfl) (by kernel_rfl) (by kernel_rfl)
theorem ty_121 : TyOk Tryd.prog 121 ⟨12, 112, [.v (.int .u32 0), .v (.int .i64 0), .v (.int .i64 0), .v (.int .i64 0), .v (.int .i64 0), .v (.map none), .v (.map none), .v (.bool false), .v (.int .i64 0), .v (.int .i64 0), .v (.int .i64 0), .v (.slice none 0 0)], .st [(0, 81), (11, 32)], false⟩ := tyOk_of (zs := [.int .u32 0, .int .i64 0, .int .i64 0, .int .i64 0, .int .i64 0, .map none, .map none, .bool false, .int .i64 0, .int .i64 0, .int .i64 0, .slice none 0 0]) (by kernel_rfl) Tryd.underlying121 rfl rfl rfl rfl (by kernel_rfl) (by kernel_rfl) (by kernel_rfl)
theorem ty_126 : TyOk Tryd.prog 126 ⟨4, 40, [.v (.int .i64 0), .v (.int .i64 0), .v (.int .i64 0), .v (.string ⟨#[]⟩)], .st [(0, 2), (1, 2), (2, 2), (3, 9)], true⟩ := tyOk_of (zs := [.int .i64 0, .int .i64 0, .int .i64 0, .string ⟨#[]⟩]) (by kernel_rfl) Tryd.underlying126 rfl rfl rfl rfl (by kernel_rfl) (by kernel_rfl) (by kernel_rfl)
theorem ty_127 : TyOk Tryd.prog 127 ⟨4, 40, [.v (.int .i64 0), .v (.int .i64 0), .v (.int .i64 0), .v (.string ⟨#[]⟩)], .st [(0, 2), (1, 2), (2, 2), (3, 9)], true⟩ := tyOk_of (zs := [.int .i64 0, .int .i64 0, .int .i64 0, .string ⟨#[]⟩]) (by kernel_rfl) Tryd.underlying127 rfl rfl rfl rfl (by kernel_rfl) (by kernel_rfl) (by kernel_rfl)
theorem ty_129 : TyOk Tryd.prog 129 ⟨5, 40, [.v (.int .i64 0), .v (.int .i64 0), .v (.bool false), .v (.int .i64 0), .v (.int .i64 0)], .st [(0, 3), (1, 3), (2, 4), (3, 2), (4, 2)], true⟩ := tyOk_of (zs := [.int .i64 0, .int .i64 0, .bool false, .int .i64 0, .int .i64 0]) (by kernel_rfl) Tryd.underlying129 rfl rfl rfl rfl (by kernel_rfl) (by kernel_rfl) (by kernel_rfl)
theorem ty_130 : TyOk Tryd.prog 130 ⟨5, 40, [.v (.int .i64 0), .v (.int .i64 0), .v (.bool false), .v (.int .i64 0), .v (.int .i64 0)], .st [(0, 3), (1, 3), (2, 4), (3, 2), (4, 2)], true⟩ := tyOk_of (zs := [.int .i64 0, .int .i64 0, .bool false, .int .i64 0, .int .i64 0]) (by kernel_rfl) Tryd.underlying130 rfl rfl rfl rfl (by kernel_rfl) (by kernel_rfl) (by kernel_rfl)
theorem ty_132 : TyOk Tryd.prog 132 ⟨3, 40, [.v (.slice none 0 0), .v (.bool false), .v (.int .i64 0)], .st [(0, 67), (1, 4), (2, 3)], false⟩ := tyOk_of (zs := [.slice none 0 0, .bool false, .int .i64 0]) (by kernel_rfl) Tryd.underlying132 rfl rfl rfl rfl (by kernel_rfl) (by kernel_rfl) (by kernel_rfl)
theorem ty_133 : TyOk Tryd.prog 133 ⟨3, 40, [.v (.slice none 0 0), .v (.bool false), .v (.int .i64 0)], .st [(0, 67), (1, 4), (2, 3)], false⟩ := tyOk_of (zs := [.slice none 0 0, .bool false, .int .i64 0]) (by kernel_rfl) Tryd.underlying133 rfl rfl rfl rfl (by kernel_rfl) (by kernel_rfl) (by kernel_rfl)
theorem ty_137 : TyOk Tryd.prog 137 ⟨1, 8, [.v (.nilFunc)], .fn, false⟩ := tyOk_of (zs := [.nilFunc]) (by kernel_rfl) Tryd.underlying137 rfl trivial rfl rfl (by kernel_rfl) (by kernel_rfl) (by kernel_rfl)
theorem ty_138 : TyOk Tryd.prog 138 ⟨1, 8, [.v (.map none)], .mp 3 137, false⟩ := tyOk_of (zs := [.map none]) (by kernel_rfl) Tryd.underlying138 rfl ⟨rfl, rfl⟩ rfl rfl (by kernel_rfl) (by kernel_rfl) (by kernel_rfl)
theorem ty_140 : TyOk Tryd.prog 140 ⟨1, 8, [.v (.pointer none)], .ptr 121, false⟩ := tyOk_of (zs := [.pointer none]) (by kernel_rfl) Tryd.underlying140 rfl rfl rfl rfl (by kernel_rfl) (by kernel_rfl) (by kernel_rfl)
theorem ty_144 : TyOk Tryd.prog 144 ⟨3, 64, [.v (.slice none 0 0), .v (.string ⟨#[]⟩), .v (.slice none 0 0)], .st [(0, 48), (1, 9), (2, 48)], false⟩ := tyOk_of (zs := [.slice none 0 0, .string ⟨#[]⟩, .slice none 0 0]) (by kernel_rfl) Tryd.underlying144 rfl rfl rfl rfl (by kernel_rfl) (by kernel_rfl) (by kernel_rfl)
theorem ty_145 : TyOk Tryd.prog 145 ⟨3, 64, [.v (.slice none 0 0), .v (.string ⟨#[]⟩), .v (.slice none 0 0)], .st [(0, 48), (1, 9), (2, 48)], false⟩ := tyOk_of (zs := [.slice none 0 0, .string ⟨#[]⟩, .slice none 0 0]) (by kernel_rfl) Tryd.underlying145 rfl rfl rfl rfl (by kernel_rfl) (by kernel_rfl) (by kernel_rfl)
theorem ty_148 : TyOk Tryd.prog 148 ⟨1, 8, [.v (.pointer none)], .ptr 29, false⟩ := tyOk_of (zs := [.pointer none]) (by kernel_rfl) Tryd.underlying148 rfl rfl rfl rfl (by kernel_rfl) (by kernel_rfl) (by kernel_rfl)
theorem ty_149 : TyOk Tryd.prog 149 ⟨1, 8, [.v (.pointer none)], .ptr 3, false⟩ := tyOk_of (zs := [.pointer none]) (by kernel_rfl) Tryd.underlying149 rfl rfl rfl rfl (by kernel_rfl) (by kernel_rfl) (by kernel_rfl)
theorem ty_150 : TyOk Tryd.prog 150 ⟨1, 8, [.v (.nilFunc)], .fn, false⟩ := tyOk_of (zs := [.nilFunc]) (by kernel_rfl) Tryd.underlying150 rfl trivial rfl rfl (by kernel_rfl) (by kernel_rfl) (by kernel_rfl)
theorem ty_152 : TyOk Tryd.prog 152 ⟨1, 8, [.v (.map none)], .mp 5 150, false⟩ := tyOk_of (zs := [.map none]) (by kernel_rfl) Tryd.underlying152 rfl ⟨rfl, rfl⟩ rfl rfl (by kernel_rfl) (by kernel_rfl) (by kernel_rfl)
theorem ty_158 : TyOk Tryd.prog 158 ⟨256, 256, List.replicate 256 (.v (.bool false)), .arr 256 4, false⟩ := tyOk_of (zs := List.replicate 256 (.bool false)) (by kernel_rfl) Tryd.underlying158 List.map_replicate ⟨rfl, rfl⟩ List.length_replicate rfl (by kernel_rfl) (by kernel_rfl) (by kernel_rfl)
theorem ty_159 : TyOk Tryd.prog 159 ⟨256, 256, List.replicate 256 (.v (.bool false)), .arr 256 4, false⟩ := tyOk_of (zs := List.replicate 256 (.bool false)) (by kernel_rfl) Tryd.underlying159 List.map_replicate ⟨rfl, rfl⟩ List.length_replicate rfl (by kernel_rfl) (by kernel_rfl) (by kernel_rfl)
theorem ty_163 : TyOk Tryd.prog 163 ⟨1, 8, [.v (.pointer none)], .ptr 159, false⟩ := tyOk_of (zs := [.pointer none]) (by kernel_rfl) Tryd.underlying163 rfl rfl rfl rfl (by kernel_rfl) (by kernel_rfl) (by kernel_rfl)
theorem ty_164 : TyOk Tryd.prog 164 ⟨1, 8, [.v (.pointer none)], .ptr 5, false⟩ := tyOk_of (zs := [.pointer none]) (by kernel_rfl) Tryd.underlying164 rfl rfl rfl rfl (by kernel_rfl) (by kernel_rfl) (by kernel_rfl)
theorem ty_168 : TyOk Tryd.prog 168 ⟨1, 8, [.v (.nilFunc)], .fn, false⟩ := tyOk_of (zs := [.nilFunc]) (by kernel_rfl) Tryd.underlying168 rfl trivial rfl rfl (by kernel_rfl) (by kernel_rfl) (by kernel_rfl)
theorem ty_169 : TyOk Tryd.prog 169 ⟨3, 48, [.v (.string ⟨#[]⟩), .v (.string ⟨#[]⟩), .v (.string ⟨#[]⟩)], .st [(0, 9), (1, 9), (2, 9)], true⟩ := tyOk_of (zs := [.string ⟨#[]⟩, .string ⟨#[]⟩, .string ⟨#[]⟩]) (by kernel_rfl) Tryd.underlying169 rfl rfl rfl rfl (by kernel_rfl) (by kernel_rfl) (by kernel_rfl)
theorem ty_170 : TyOk Tryd.prog 170 ⟨3, 48, [.v (.string ⟨#[]⟩), .v (.string ⟨#[]⟩), .v (.string ⟨#[]⟩)], .st [(0, 9), (1, 9), (2, 9)], true⟩ := tyOk_of (zs := [.string ⟨#[]⟩, .string ⟨#[]⟩, .string ⟨#[]⟩]) (by kernel_rfl) Tryd.underlying170 rfl rfl rfl rfl (by kernel_rfl) (by kernel_rfl) (by kernel_rfl)
theorem ty_182 : TyOk Tryd.prog 182 ⟨1, 8, [.v (.pointer none)], .oth, false⟩ := tyOk_of (zs := [.pointer none]) (by kernel_rfl) Tryd.underlying182 rfl trivial rfl rfl (by kernel_rfl) (by kernel_rfl) (by kernel_rfl)
theorem ty_188 : TyOk Tryd.prog 188 ⟨90, 1440, List.replicate 90 (.v (.string ⟨#[]⟩)), .arr 30 170, false⟩ := tyOk_of (zs := List.replicate 90 (.string ⟨#[]⟩)) (by kernel_rfl) Tryd.underlying188 List.map_replicate ⟨rfl, rfl⟩ List.length_replicate rfl (by kernel_rfl) (by kernel_rfl) (by kernel_rfl)
theorem ty_190 : TyOk Tryd.prog 190 ⟨177, 2832, List.replicate 177 (.v (.string ⟨#[]⟩)), .arr 59 170, false⟩ := tyOk_of (zs := List.replicate 177 (.string ⟨#[]⟩)) (by kernel_rfl) Tryd.underlying190 List.map_replicate ⟨rfl, rfl⟩ List.length_replicate rfl (by kernel_rfl) (by kernel_rfl) (by kernel_rfl)
theorem ty_197 : TyOk Tryd.prog 197 ⟨78, 1248, List.replicate 78 (.v (.string ⟨#[]⟩)), .arr 26 170, false⟩ := tyOk_of (zs := List.replicate 78 (.string ⟨#[]⟩)) (by kernel_rfl) Tryd.underlying197 List.map_replicate ⟨rfl, rfl⟩ List.length_replicate rfl (by kernel_rfl) (by kernel_rfl) (by kernel_rfl)
theorem ty_205 : TyOk Tryd.prog 205 ⟨1, 8, [.v (.int .i64 0)], .int .i64, false⟩ := tyOk_of (zs := [.int .i64 0]) (by kernel_rfl) Tryd.underlying205 rfl rfl rfl rfl (by kernel_rfl) (by kernel_rfl) (by kernel_rfl)
theorem ty_215 : TyOk Tryd.prog 215 ⟨1, 8, [.v (.int .u64 0)], .int .u64, false⟩ := tyOk_of (zs := [.int .u64 0]) (by kernel_rfl) Tryd.underlying215 rfl rfl rfl rfl (by kernel_rfl) (by kernel_rfl) (by kernel_rfl)
theorem ty_222 : TyOk Tryd.prog 222 ⟨256, 256, List.replicate 256 (.v (.int .u8 0)), .arr 256 5, false⟩ := tyOk_of (zs := List.replicate 256 (.int .u8 0)) (by kernel_rfl) Tryd.underlying222 List.map_replicate ⟨rfl, rfl⟩ List.length_replicate rfl (by kernel_rfl) (by kernel_rfl) (by kernel_rfl)
theorem ty_224 : TyOk Tryd.prog 224 ⟨1, 8, [.v (.nilFunc)], .fn, false⟩ := tyOk_of (zs := [.nilFunc]) (by kernel_rfl) Tryd.underlying224 rfl trivial rfl rfl (by kernel_rfl) (by kernel_rfl) (by kernel_rfl)
theorem ty_226 : TyOk Tryd.prog 226 ⟨1, 8, [.v (.int .u64 0)], .int .u64, false⟩ := tyOk_of (zs := [.int .u64 0]) (by kernel_rfl) Tryd.underlying226 rfl rfl rfl rfl (by kernel_rfl) (by kernel_rfl) (by kernel_rfl)
theorem ty_234 : TyOk Tryd.prog 234 ⟨1, 24, [.v (.slice none 0 0)], .sl 236, false⟩ := tyOk_of (zs := [.slice none 0 0]) (by kernel_rfl) Tryd.underlying234 rfl rfl rfl rfl (by kernel_rfl) (by kernel_rfl) (by kernel_rfl)
theorem ty_235 : TyOk Tryd.prog 235 ⟨2, 16, [.v (.int .i64 0), .v (.int .i64 0)], .st [(0, 3), (1, 3)], true⟩ := tyOk_of (zs := [.int .i64 0, .int .i64 0]) (by kernel_rfl) Tryd.underlying235 rfl rfl rfl rfl (by kernel_rfl) (by kernel_rfl) (by kernel_rfl)
theorem ty_236 : TyOk Tryd.prog 236 ⟨2, 16, [.v (.int .i64 0), .v (.int .i64 0)], .st [(0, 3), (1, 3)], true⟩ := tyOk_of (zs := [.int .i64 0, .int .i64 0]) (by kernel_rfl) Tryd.underlying236 rfl rfl rfl rfl (by kernel_rfl) (by kernel_rfl) (by kernel_rfl)
theorem ty_238 : TyOk Tryd.prog 238 ⟨1, 8, [.v (.pointer none)], .ptr 247, false⟩ := tyOk_of (zs := [.pointer none]) (by kernel_rfl) Tryd.underlying238 rfl rfl rfl rfl (by kernel_rfl) (by kernel_rfl) (by kernel_rfl)
theorem ty_239 : TyOk Tryd.prog 239 ⟨1, 8, [.v (.pointer none)], .ptr 226, false⟩ := tyOk_of (zs := [.pointer none]) (by kernel_rfl) Tryd.underlying239 rfl rfl rfl rfl (by kernel_rfl) (by kernel_rfl) (by kernel_rfl)
theorem ty_241 : TyOk Tryd.prog 241 ⟨2, 2, [.v (.int .u8 0), .v (.int .u8 0)], .st [(0, 5), (1, 5)], true⟩ := tyOk_of (zs := [.int .u8 0, .int .u8 0]) (by kernel_rfl) Tryd.underlying241 rfl rfl rfl rfl (by kernel_rfl) (by kernel_rfl) (by kernel_rfl)
theorem ty_242 : TyOk Tryd.prog 242 ⟨2, 2, [.v (.int .u8 0), .v (.int .u8 0)], .st [(0, 5), (1, 5)], true⟩ := tyOk_of (zs := [.int .u8 0, .int .u8 0]) (by kernel_rfl) Tryd.underlying242 rfl rfl rfl rfl (by kernel_rfl) (by kernel_rfl) (by kernel_rfl)
theorem ty_243 : TyOk Tryd.prog 243 ⟨32, 32, List.replicate 32 (.v (.int .u8 0)), .arr 16 242, false⟩ := tyOk_of (zs := List.replicate 32 (.int .u8 0)) (by kernel_rfl) Tryd.underlying243 List.map_replicate ⟨rfl, rfl⟩ List.length_replicate rfl (by kernel_rfl) (by kernel_rfl) (by kernel_rfl)
theorem ty_244 : TyOk Tryd.prog 244 ⟨1, 24, [.v (.slice none 0 0)], .sl 249, false⟩ := tyOk_of (zs := [.slice none 0 0]) (by kernel_rfl) Tryd.underlying244 rfl rfl rfl rfl (by kernel_rfl) (by kernel_rfl) (by kernel_rfl)
theorem ty_245 : TyOk Tryd.prog 245 ⟨1, 24, [.v (.slice none 0 0)], .sl 252, false⟩ := tyOk_of (zs := [.slice none 0 0]) (by kernel_rfl) Tryd.underlying245 rfl rfl rfl rfl (by kernel_rfl) (by kernel_rfl) (by kernel_rfl)
theorem ty_246 : TyOk Tryd.prog 246 ⟨3, 56, [.v (.slice none 0 0), .v (.slice none 0 0), .v (.int .i64 0)], .st [(0, 244), (1, 245), (2, 3)], false⟩ := tyOk_of (zs := [.slice none 0 0, .slice none 0 0, .int .i64 0]) (by kernel_rfl) Tryd.underlying246 rfl rfl rfl rfl (by kernel_rfl) (by kernel_rfl) (by kernel_rfl)
theorem ty_247 : TyOk Tryd.prog 247 ⟨3, 56, [.v (.slice none 0 0), .v (.slice none 0 0), .v (.int .i64 0)], .st [(0, 244), (1, 245), (2, 3)], false⟩ := tyOk_of (zs := [.slice none 0 0, .slice none 0 0, .int .i64 0]) (by kernel_rfl) Tryd.underlying247 rfl rfl rfl rfl (by kernel_rfl) (by kernel_rfl) (by kernel_rfl)
theorem ty_248 : TyOk Tryd.prog 248 ⟨3, 6, [.v (.int .u16 0), .v (.int .u16 0), .v (.int .u16 0)], .st [(0, 41), (1, 41), (2, 41)], true⟩ := tyOk_of (zs := [.int .u16 0, .int .u16 0, .int .u16 0]) (by kernel_rfl) Tryd.underlying248 rfl rfl rfl rfl (by kernel_rfl) (by kernel_rfl) (by kernel_rfl)
theorem ty_249 : TyOk Tryd.prog 249 ⟨3, 6, [.v (.int .u16 0), .v (.int .u16 0), .v (.int .u16 0)], .st [(0, 41), (1, 41), (2, 41)], true⟩ := tyOk_of (zs := [.int .u16 0, .int .u16 0, .int .u16 0]) (by kernel_rfl) Tryd.underlying249 rfl rfl rfl rfl (by kernel_rfl) (by kernel_rfl) (by kernel_rfl)
theorem ty_251 : TyOk Tryd.prog 251 ⟨3, 12, [.v (.int .u32 0), .v (.int .u32 0), .v (.int .u32 0)], .st [(0, 38), (1, 38), (2, 38)], true⟩ := tyOk_of (zs := [.int .u32 0, .int .u32 0, .int .u32 0]) (by kernel_rfl) Tryd.underlying251 rfl rfl rfl rfl (by kernel_rfl) (by kernel_rfl) (by kernel_rfl)
theorem ty_252 : TyOk Tryd.prog 252 ⟨3, 12, [.v (.int .u32 0), .v (.int .u32 0), .v (.int .u32 0)], .st [(0, 38), (1, 38), (2, 38)], true⟩ := tyOk_of (zs := [.int .u32 0, .int .u32 0, .int .u32 0]) (by kernel_rfl) Tryd.underlying252 rfl rfl rfl rfl (by kernel_rfl) (by kernel_rfl) (by kernel_rfl)
theorem ty_254 : TyOk Tryd.prog 254 ⟨1, 8, [.v (.pointer none)], .ptr 249, false⟩ := tyOk_of (zs := [.pointer none]) (by kernel_rfl) Tryd.underlying254 rfl rfl rfl rfl (by kernel_rfl) (by kernel_rfl) (by kernel_rfl)
theorem ty_255 : TyOk Tryd.prog 255 ⟨1, 8, [.v (.pointer none)], .ptr 252, false⟩ := tyOk_of (zs := [.pointer none]) (by kernel_rfl) Tryd.underlying255 rfl rfl rfl rfl (by kernel_rfl) (by kernel_rfl) (by kernel_rfl)
theorem ty_256 : TyOk Tryd.prog 256 ⟨4, 40, [.v (.pointer none), .v (.pointer none), .v (.pointer none), .v (.string ⟨#[]⟩)], .st [(0, 17), (1, 17), (2, 17), (3, 9)], false⟩ := tyOk_of (zs := [.pointer none, .pointer none, .pointer none, .string ⟨#[]⟩]) (by kernel_rfl) Tryd.underlying256 rfl rfl rfl rfl (by kernel_rfl) (by kernel_rfl) (by kernel_rfl)
theorem ty_257 : TyOk Tryd.prog 257 ⟨4, 40, [.v (.pointer none), .v (.pointer none), .v (.pointer none), .v (.string ⟨#[]⟩)], .st [(0, 17), (1, 17), (2, 17), (3, 9)], false⟩ := tyOk_of (zs := [.pointer none, .pointer none, .pointer none, .string ⟨#[]⟩]) (by kernel_rfl) Tryd.underlying257 rfl rfl rfl rfl (by kernel_rfl) (by kernel_rfl) (by kernel_rfl)
theorem ty_258 : TyOk Tryd.prog 258 ⟨0, 0, [], .arr 0 16, false⟩ := tyOk_of (zs := []) (by kernel_rfl) Tryd.underlying258 rfl ⟨rfl, rfl⟩ rfl rfl (by kernel_rfl) (by kernel_rfl) (by kernel_rfl)
theorem ty_259 : TyOk Tryd.prog 259 ⟨0, 0, [], .st [(0, 258)], false⟩ := tyOk_of (zs := []) (by kernel_rfl) Tryd.underlying259 rfl rfl rfl rfl (by kernel_rfl) (by kernel_rfl) (by kernel_rfl)
theorem ty_260 : TyOk Tryd.prog 260 ⟨0, 0, [], .st [(0, 258)], false⟩ := tyOk_of (zs := []) (by kernel_rfl) Tryd.underlying260 rfl rfl rfl rfl (by kernel_rfl) (by kernel_rfl) (by kernel_rfl)
theorem ty_262 : TyOk Tryd.prog 262 ⟨1, 1, [.v (.int .u8 0)], .int .u8, false⟩ := tyOk_of (zs := [.int .u8 0]) (by kernel_rfl) Tryd.underlying262 rfl rfl rfl rfl (by kernel_rfl) (by kernel_rfl) (by kernel_rfl)
theorem ty_263 : TyOk Tryd.prog 263 ⟨1, 1, [.v (.int .u8 0)], .int .u8, false⟩ := tyOk_of (zs := [.int .u8 0]) (by kernel_rfl) Tryd.underlying263 rfl rfl rfl rfl (by kernel_rfl) (by kernel_rfl) (by kernel_rfl)
theorem ty_265 : TyOk Tryd.prog 265 ⟨1, 4, [.v (.int .i32 0)], .int .i32, false⟩ := tyOk_of (zs := [.int .i32 0]) (by kernel_rfl) Tryd.underlying265 rfl rfl rfl rfl (by kernel_rfl) (by kernel_rfl) (by kernel_rfl)
theorem ty_266 : TyOk Tryd.prog 266 ⟨1, 4, [.v (.int .i32 0)], .int .i32, false⟩ := tyOk_of (zs := [.int .i32 0]) (by kernel_rfl) Tryd.underlying266 rfl rfl rfl rfl (by kernel_rfl) (by kernel_rfl) (by kernel_rfl)
theorem ty_267 : TyOk Tryd.prog 267 ⟨11, 48, [.v (.int .u64 0), .v (.int .u64 0), .v (.int .u32 0), .v (.int .u8 0), .v (.int .u8 0), .v (.int .u8 0), .v (.int .u8 0), .v (.nilFunc), .v (.pointer none), .v (.int .i32 0), .v (.int .i32 0)], .st [(0, 12), (1, 12), (2, 38), (3, 262), (4, 5), (5, 5), (6, 263), (7, 264), (8, 164), (9, 265), (10, 266)], false⟩ := tyOk_of (zs := [.int .u64 0, .int .u64 0, .int .u32 0, .int .u8 0, .int .u8 0, .int .u8 0, .int .u8 0, .nilFunc, .pointer none, .int .i32 0, .int .i32 0]) (by kernel_rfl) Tryd.underlying267 rfl rfl rfl rfl (by kernel_rfl) (by kernel_rfl) (by kernel_rfl)
theorem ty_268 : TyOk Tryd.prog 268 ⟨11, 48, [.v (.int .u64 0), .v (.int .u64 0), .v (.int .u32 0), .v (.int .u8 0), .v (.int .u8 0), .v (.int .u8 0), .v (.int .u8 0), .v (.nilFunc), .v (.pointer none), .v (.int .i32 0), .v (.int .i32 0)], .st [(0, 12), (1, 12), (2, 38), (3, 262), (4, 5), (5, 5), (6, 263), (7, 264), (8, 164), (9, 265), (10, 266)], false⟩ := tyOk_of (zs := [.int .u64 0, .int .u64 0, .int .u32 0, .int .u8 0, .int .u8 0, .int .u8 0, .int .u8 0, .nilFunc, .pointer none, .int .i32 0, .int .i32 0]) (by kernel_rfl) Tryd.underlying268 rfl rfl rfl rfl (by kernel_rfl) (by kernel_rfl) (by kernel_rfl)
def tabc_0 : Nat → Option TyI
  | 1 => some ⟨1, 8, [.v (.nilFunc)], .fn, false⟩
  | 2 => some ⟨1, 8, [.v (.int .i64 0)], .int .i64, false⟩
  | 3 => some ⟨1, 8, [.v (.int .i64 0)], .int .i64, false⟩
  | 4 => some ⟨1, 1, [.v (.bool false)], .bool, false⟩
  | 5 => some ⟨1, 1, [.v (.int .u8 0)], .int .u8, false⟩
  | 6 => some ⟨1, 1, [.v (.int .u8 0)], .int .u8, false⟩
  | 7 => some ⟨4, 24, [.v (.int .i64 0), .v (.int .i64 0), .v (.bool false), .v (.int .u8 0)], .st [(0, 2), (1, 3), (2, 4), (3, 6)], false⟩
  | 8 => some ⟨4, 24, [.v (.int .i64 0), .v (.int .i64 0), .v (.bool false), .v (.int .u8 0)], .st [(0, 2), (1, 3), (2, 4), (3, 6)], false⟩
  | 9 => some ⟨1, 16, [.v (.string ⟨#[]⟩)], .str, false⟩
  | 10 => some ⟨1, 16, [.v (.string ⟨#[]⟩)], .str, false⟩
  | 11 => some ⟨1, 16, [.v (.string ⟨#[]⟩)], .str, false⟩
  | 12 => some ⟨1, 8, [.v (.int .u64 0)], .int .u64, false⟩
  | 13 => some ⟨2, 24, [.v (.string ⟨#[]⟩), .v (.int .u64 0)], .st [(0, 9), (1, 12)], false⟩
  | 14 => some ⟨2, 24, [.v (.string ⟨#[]⟩), .v (.int .u64 0)], .st [(0, 9), (1, 12)], false⟩
  | 15 => some ⟨1, 8, [.v (.pointer none)], .ptr 257, false⟩
  | 16 => some ⟨1, 8, [.v (.pointer none)], .ptr 260, false⟩
  | 17 => some ⟨1, 8, [.v (.pointer none)], .ptr 268, false⟩
  | 18 => some ⟨1, 8, [.v (.pointer none)], .st [(0, 17)], false⟩
  | 19 => some ⟨1, 8, [.v (.pointer none)], .st [(0, 17)], false⟩
  | 21 => some ⟨1, 4, [.v (.int .i32 0)], .int .i32, false⟩
  | 22 => some ⟨1, 24, [.v (.slice none 0 0)], .sl 43, false⟩
  | 23 => some ⟨1, 8, [.v (.nilFunc)], .fn, false⟩
  | 24 => some ⟨1, 8, [.v (.nilFunc)], .fn, false⟩
  | 25 => some ⟨1, 24, [.v (.slice none 0 0)], .sl 5, false⟩
  | 26 => some ⟨1, 24, [.v (.slice none 0 0)], .sl 9, false⟩
  | 27 => some ⟨2, 16, [.v (.int .i64 0), .v (.int .i64 0)], .arr 2 3, false⟩
  | 28 => some ⟨11, 120, [.v (.int .i64 0), .v (.int .i64 0), .v (.int .i64 0), .v (.int .i64 0), .v (.int .i64 0), .v (.slice none 0 0), .v (.slice none 0 0), .v (.int .i64 0), .v (.int .i64 0), .v (.int .i64 0), .v (.int .i64 0)], .st [(0, 3), (1, 3), (2, 3), (3, 3), (4, 3), (5, 25), (6, 26), (7, 3), (8, 27), (10, 3)], false⟩
  | 29 => some ⟨11, 120, [.v (.int .i64 0), .v (.int .i64 0), .v (.int .i64 0), .v (.int .i64 0), .v (.int .i64 0), .v (.slice none 0 0), .v (.slice none 0 0), .v (.int .i64 0), .v (.int .i64 0), .v (.int .i64 0), .v (.int .i64 0)], .st [(0, 3), (1, 3), (2, 3), (3, 3), (4, 3), (5, 25), (6, 26), (7, 3), (8, 27), (10, 3)], false⟩
  | 30 => some ⟨16, 168, [.v (.bool false), .v (.int .i64 0), .v (.int .i64 0), .v (.int .i64 0), .v (.int .i64 0), .v (.int .i64 0), .v (.int .i64 0), .v (.int .i64 0), .v (.int .i64 0), .v (.slice none 0 0), .v (.slice none 0 0), .v (.int .i64 0), .v (.int .i64 0), .v (.int .i64 0), .v (.int .i64 0), .v (.string ⟨#[]⟩)], .st [(0, 4), (1, 2), (2, 2), (3, 2), (4, 29), (15, 9)], false⟩
  | 31 => some ⟨16, 168, [.v (.bool false), .v (.int .i64 0), .v (.int .i64 0), .v (.int .i64 0), .v (.int .i64 0), .v (.int .i64 0), .v (.int .i64 0), .v (.int .i64 0), .v (.int .i64 0), .v (.slice none 0 0), .v (.slice none 0 0), .v (.int .i64 0), .v (.int .i64 0), .v (.int .i64 0), .v (.int .i64 0), .v (.string ⟨#[]⟩)], .st [(0, 4), (1, 2), (2, 2), (3, 2), (4, 29), (15, 9)], false⟩
  | 32 => some ⟨1, 24, [.v (.slice none 0 0)], .sl 88, false⟩
  | 33 => some ⟨1, 8, [.v (.int .i64 0)], .int .i64, false⟩
  | 35 => some ⟨1, 8, [.v (.nilFunc)], .fn, false⟩
  | 37 => some ⟨1, 8, [.v (.nilFunc)], .fn, false⟩
  | 38 => some ⟨1, 4, [.v (.int .u32 0)], .int .u32, false⟩
  | 39 => some ⟨1, 4, [.v (.int .u32 0)], .int .u32, false⟩
  | 40 => some ⟨1, 8, [.v (.int .u64 0)], .int .u64, false⟩
  | 41 => some ⟨1, 2, [.v (.int .u16 0)], .int .u16, false⟩
  | 42 => some ⟨6, 32, [.v (.int .u8 0), .v (.string ⟨#[]⟩), .v (.int .u8 0), .v (.int .u8 0), .v (.int .u16 0), .v (.int .u16 0)], .st [(0, 5), (1, 9), (2, 5), (3, 5), (4, 41), (5, 41)], true⟩
  | 43 => some ⟨6, 32, [.v (.int .u8 0), .v (.string ⟨#[]⟩), .v (.int .u8 0), .v (.int .u8 0), .v (.int .u16 0), .v (.int .u16 0)], .st [(0, 5), (1, 9), (2, 5), (3, 5), (4, 41), (5, 41)], true⟩
  | _ => none
theorem tabc_ok_0 : TabOk Tryd.prog tabc_0 := by
  intro t i h
  unfold tabc_0 at h
  split at h
  · exact Option.some.inj h ▸ ty_1
  · exact Option.some.inj h ▸ ty_2
  · exact Option.some.inj h ▸ ty_3
  · exact Option.some.inj h ▸ ty_4
  · exact Option.some.inj h ▸ ty_5
  · exact Option.some.inj h ▸ ty_6
  · exact Option.some.inj h ▸ ty_7
  · exact Option.some.inj h ▸ ty_8
  · exact Option.some.inj h ▸ ty_9
  · exact Option.some.inj h ▸ ty_10
  · exact Option.some.inj h ▸ ty_11
  · exact Option.some.inj h ▸ ty_12
  · exact Option.some.inj h ▸ ty_13
  · exact Option.some.inj h ▸ ty_14
  · exact Option.some.inj h ▸ ty_15
  · exact Option.some.inj h ▸ ty_16
  · exact Option.some.inj h ▸ ty_17
  · exact Option.some.inj h ▸ ty_18
  · exact Option.some.inj h ▸ ty_19
  · exact Option.some.inj h ▸ ty_21
  · exact Option.some.inj h ▸ ty_22
  · exact Option.some.inj h ▸ ty_23
  · exact Option.some.inj h ▸ ty_24
  · exact Option.some.inj h ▸ ty_25
  · exact Option.some.inj h ▸ ty_26
  · exact Option.some.inj h ▸ ty_27
  · exact Option.some.inj h ▸ ty_28
  · exact Option.some.inj h ▸ ty_29
  · exact Option.some.inj h ▸ ty_30
  · exact Option.some.inj h ▸ ty_31
  · exact Option.some.inj h ▸ ty_32
  · exact Option.some.inj h ▸ ty_33
  · exact Option.some.inj h ▸ ty_35
  · exact Option.some.inj h ▸ ty_37
  · exact Option.some.inj h ▸ ty_38
  · exact Option.some.inj h ▸ ty_39
  · exact Option.some.inj h ▸ ty_40
  · exact Option.some.inj h ▸ ty_41
  · exact Option.some.inj h ▸ ty_42
  · exact Option.some.inj h ▸ ty_43
  · cases h
def tabc_1 : Nat → Option TyI
  | 44 => some ⟨1, 8, [.v (.nilFunc)], .fn, false⟩
  | 45 => some ⟨1, 8, [.v (.nilFunc)], .fn, false⟩
  | 47 => some ⟨1, 8, [.v (.nilFunc)], .fn, false⟩
  | 48 => some ⟨1, 24, [.v (.slice none 0 0)], .sl 2, false⟩
  | 49 => some ⟨6, 88, [.v (.int .i64 0), .v (.int .i64 0), .v (.int .i64 0), .v (.slice none 0 0), .v (.string ⟨#[]⟩), .v (.slice none 0 0)], .st [(0, 3), (1, 3), (2, 3), (3, 48), (4, 9), (5, 48)], false⟩
  | 50 => some ⟨6, 88, [.v (.int .i64 0), .v (.int .i64 0), .v (.int .i64 0), .v (.slice none 0 0), .v (.string ⟨#[]⟩), .v (.slice none 0 0)], .st [(0, 3), (1, 3), (2, 3), (3, 48), (4, 9), (5, 48)], false⟩
  | 51 => some ⟨1, 8, [.v (.nilFunc)], .fn, false⟩
  | 53 => some ⟨1, 8, [.v (.nilFunc)], .fn, false⟩
  | 54 => some ⟨1, 8, [.v (.nilFunc)], .fn, false⟩
  | 56 => some ⟨1, 8, [.v (.nilFunc)], .fn, false⟩
  | 57 => some ⟨1, 8, [.v (.nilFunc)], .fn, false⟩
  | 58 => some ⟨1, 8, [.v (.nilFunc)], .fn, false⟩
  | 65 => some ⟨4, 32, [.v (.int .i64 0), .v (.int .i64 0), .v (.int .i64 0), .v (.int .i64 0)], .st [(0, 3), (1, 3), (2, 3), (3, 3)], true⟩
  | 66 => some ⟨4, 32, [.v (.int .i64 0), .v (.int .i64 0), .v (.int .i64 0), .v (.int .i64 0)], .st [(0, 3), (1, 3), (2, 3), (3, 3)], true⟩
  | 67 => some ⟨1, 24, [.v (.slice none 0 0)], .sl 3, false⟩
  | 68 => some ⟨2, 16, [.v (.int .i64 0), .v (.int .i64 0)], .st [(0, 3), (1, 3)], true⟩
  | 69 => some ⟨2, 16, [.v (.int .i64 0), .v (.int .i64 0)], .st [(0, 3), (1, 3)], true⟩
  | 72 => some ⟨1, 24, [.v (.slice none 0 0)], .sl 50, false⟩
  | 74 => some ⟨3, 24, [.v (.int .u32 0), .v (.int .i64 0), .v (.int .i64 0)], .st [(0, 39), (1, 3), (2, 3)], true⟩
  | 75 => some ⟨3, 24, [.v (.int .u32 0), .v (.int .i64 0), .v (.int .i64 0)], .st [(0, 39), (1, 3), (2, 3)], true⟩
  | 76 => some ⟨1, 8, [.v (.map none)], .mp 2 127, false⟩
  | 77 => some ⟨1, 8, [.v (.map none)], .mp 2 130, false⟩
  | 78 => some ⟨4, 32, [.v (.bool false), .v (.int .i64 0), .v (.int .i64 0), .v (.int .i64 0)], .st [(0, 4), (1, 2), (2, 2), (3, 2)], true⟩
  | 79 => some ⟨4, 32, [.v (.bool false), .v (.int .i64 0), .v (.int .i64 0), .v (.int .i64 0)], .st [(0, 4), (1, 2), (2, 2), (3, 2)], true⟩
  | 80 => some ⟨11, 88, [.v (.int .u32 0), .v (.int .i64 0), .v (.int .i64 0), .v (.int .i64 0), .v (.int .i64 0), .v (.map none), .v (.map none), .v (.bool false), .v (.int .i64 0), .v (.int .i64 0), .v (.int .i64 0)], .st [(0, 75), (3, 3), (4, 3), (5, 76), (6, 77), (7, 79)], false⟩
  | 81 => some ⟨11, 88, [.v (.int .u32 0), .v (.int .i64 0), .v (.int .i64 0), .v (.int .i64 0), .v (.int .i64 0), .v (.map none), .v (.map none), .v (.bool false), .v (.int .i64 0), .v (.int .i64 0), .v (.int .i64 0)], .st [(0, 75), (3, 3), (4, 3), (5, 76), (6, 77), (7, 79)], false⟩
  | 84 => some ⟨1, 8, [.v (.map none)], .mp 2 4, false⟩
  | 86 => some ⟨1, 8, [.v (.nilFunc)], .fn, false⟩
  | 87 => some ⟨4, 72, [.v (.int .i64 0), .v (.slice none 0 0), .v (.string ⟨#[]⟩), .v (.slice none 0 0)], .st [(0, 3), (1, 48), (2, 9), (3, 48)], false⟩
  | 88 => some ⟨4, 72, [.v (.int .i64 0), .v (.slice none 0 0), .v (.string ⟨#[]⟩), .v (.slice none 0 0)], .st [(0, 3), (1, 48), (2, 9), (3, 48)], false⟩
  | 89 => some ⟨1, 8, [.v (.map none)], .mp 39 4, false⟩
  | 90 => some ⟨1, 24, [.v (.slice none 0 0)], .sl 39, false⟩
  | 99 => some ⟨1, 8, [.v (.nilFunc)], .fn, false⟩
  | 101 => some ⟨1, 8, [.v (.map none)], .mp 3 99, false⟩
  | 108 => some ⟨1, 8, [.v (.pointer none)], .ptr 110, false⟩
  | 109 => some ⟨2, 32, [.v (.pointer none), .v (.slice none 0 0)], .st [(0, 108), (1, 25)], false⟩
  | 110 => some ⟨2, 32, [.v (.pointer none), .v (.slice none 0 0)], .st [(0, 108), (1, 25)], false⟩
  | 120 => some ⟨12, 112, [.v (.int .u32 0), .v (.int .i64 0), .v (.int .i64 0), .v (.int .i64 0), .v (.int .i64 0), .v (.map none), .v (.map none), .v (.bool false), .v (.int .i64 0), .v (.int .i64 0), .v (.int .i64 0), .v (.slice none 0 0)], .st [(0, 81), (11, 32)], false⟩
  | 121 => some ⟨12, 112, [.v (.int .u32 0), .v (.int .i64 0), .v (.int .i64 0), .v (.int .i64 0), .v (.int .i64 0), .v (.map none), .v (.map none), .v (.bool false), .v (.int .i64 0), .v (.int .i64 0), .v (.int .i64 0), .v (.slice none 0 0)], .st [(0, 81), (11, 32)], false⟩
  | 126 => some ⟨4, 40, [.v (.int .i64 0), .v (.int .i64 0), .v (.int .i64 0), .v (.string ⟨#[]⟩)], .st [(0, 2), (1, 2), (2, 2), (3, 9)], true⟩
  | _ => none
theorem tabc_ok_1 : TabOk Tryd.prog tabc_1 := by
  intro t i h
  unfold tabc_1 at h
  split at h
  · exact Option.some.inj h ▸ ty_44
  · exact Option.some.inj h ▸ ty_45
  · exact Option.some.inj h ▸ ty_47
  · exact Option.some.inj h ▸ ty_48
  · exact Option.some.inj h ▸ ty_49
  · exact Option.some.inj h ▸ ty_50
  · exact Option.some.inj h ▸ ty_51
  · exact Option.some.inj h ▸ ty_53
  · exact Option.some.inj h ▸ ty_54
  · exact Option.some.inj h ▸ ty_56
  · exact Option.some.inj h ▸ ty_57
  · exact Option.some.inj h ▸ ty_58
  · exact Option.some.inj h ▸ ty_65
  · exact Option.some.inj h ▸ ty_66
  · exact Option.some.inj h ▸ ty_67
  · exact Option.some.inj h ▸ ty_68
  · exact Option.some.inj h ▸ ty_69
  · exact Option.some.inj h ▸ ty_72
  · exact Option.some.inj h ▸ ty_74
  · exact Option.some.inj h ▸ ty_75
  · exact Option.some.inj h ▸ ty_76
  · exact Option.some.inj h ▸ ty_77
  · exact Option.some.inj h ▸ ty_78
  · exact Option.some.inj h ▸ ty_79
  · exact Option.some.inj h ▸ ty_80
  · exact Option.some.inj h ▸ ty_81
  · exact Option.some.inj h ▸ ty_84
  · exact Option.some.inj h ▸ ty_86
  · exact Option.some.inj h ▸ ty_87
  · exact Option.some.inj h ▸ ty_88
  · exact Option.some.inj h ▸ ty_89
  · exact Option.some.inj h ▸ ty_90
  · exact Option.some.inj h ▸ ty_99
  · exact Option.some.inj h ▸ ty_101
  · exact Option.some.inj h ▸ ty_108
  · exact Option.some.inj h ▸ ty_109
  · exact Option.some.inj h ▸ ty_110
  · exact Option.some.inj h ▸ ty_120
  · exact Option.some.inj h ▸ ty_121
  · exact Option.some.inj h ▸ ty_126
  · cases h
def tabc_2 : Nat → Option TyI
  | 127 => some ⟨4, 40, [.v (.int .i64 0), .v (.int .i64 0), .v (.int .i64 0), .v (.string ⟨#[]⟩)], .st [(0, 2), (1, 2), (2, 2), (3, 9)], true⟩
  | 129 => some ⟨5, 40, [.v (.int .i64 0), .v (.int .i64 0), .v (.bool false), .v (.int .i64 0), .v (.int .i64 0)], .st [(0, 3), (1, 3), (2, 4), (3, 2), (4, 2)], true⟩
  | 130 => some ⟨5, 40, [.v (.int .i64 0), .v (.int .i64 0), .v (.bool false), .v (.int .i64 0), .v (.int .i64 0)], .st [(0, 3), (1, 3), (2, 4), (3, 2), (4, 2)], true⟩
  | 132 => some ⟨3, 40, [.v (.slice none 0 0), .v (.bool false), .v (.int .i64 0)], .st [(0, 67), (1, 4), (2, 3)], false⟩
  | 133 => some ⟨3, 40, [.v (.slice none 0 0), .v (.bool false), .v (.int .i64 0)], .st [(0, 67), (1, 4), (2, 3)], false⟩
  | 137 => some ⟨1, 8, [.v (.nilFunc)], .fn, false⟩
  | 138 => some ⟨1, 8, [.v (.map none)], .mp 3 137, false⟩
  | 140 => some ⟨1, 8, [.v (.pointer none)], .ptr 121, false⟩
  | 144 => some ⟨3, 64, [.v (.slice none 0 0), .v (.string ⟨#[]⟩), .v (.slice none 0 0)], .st [(0, 48), (1, 9), (2, 48)], false⟩
  | 145 => some ⟨3, 64, [.v (.slice none 0 0), .v (.string ⟨#[]⟩), .v (.slice none 0 0)], .st [(0, 48), (1, 9), (2, 48)], false⟩
  | 148 => some ⟨1, 8, [.v (.pointer none)], .ptr 29, false⟩
  | 149 => some ⟨1, 8, [.v (.pointer none)], .ptr 3, false⟩
  | 150 => some ⟨1, 8, [.v (.nilFunc)], .fn, false⟩
  | 152 => some ⟨1, 8, [.v (.map none)], .mp 5 150, false⟩
  | 158 => some ⟨256, 256, List.replicate 256 (.v (.bool false)), .arr 256 4, false⟩
  | 159 => some ⟨256, 256, List.replicate 256 (.v (.bool false)), .arr 256 4, false⟩
  | 163 => some ⟨1, 8, [.v (.pointer none)], .ptr 159, false⟩
  | 164 => some ⟨1, 8, [.v (.pointer none)], .ptr 5, false⟩
  | 168 => some ⟨1, 8, [.v (.nilFunc)], .fn, false⟩
  | 169 => some ⟨3, 48, [.v (.string ⟨#[]⟩), .v (.string ⟨#[]⟩), .v (.string ⟨#[]⟩)], .st [(0, 9), (1, 9), (2, 9)], true⟩
  | 170 => some ⟨3, 48, [.v (.string ⟨#[]⟩), .v (.string ⟨#[]⟩), .v (.string ⟨#[]⟩)], .st [(0, 9), (1, 9), (2, 9)], true⟩
  | 182 => some ⟨1, 8, [.v (.pointer none)], .oth, false⟩
  | 188 => some ⟨90, 1440, List.replicate 90 (.v (.string ⟨#[]⟩)), .arr 30 170, false⟩
  | 190 => some ⟨177, 2832, List.replicate 177 (.v (.string ⟨#[]⟩)), .arr 59 170, false⟩
  | 197 => some ⟨78, 1248, List.replicate 78 (.v (.string ⟨#[]⟩)), .arr 26 170, false⟩
  | 205 => some ⟨1, 8, [.v (.int .i64 0)], .int .i64, false⟩
  | 215 => some ⟨1, 8, [.v (.int .u64 0)], .int .u64, false⟩
  | 222 => some ⟨256, 256, List.replicate 256 (.v (.int .u8 0)), .arr 256 5, false⟩
  | 224 => some ⟨1, 8, [.v (.nilFunc)], .fn, false⟩
  | 226 => some ⟨1, 8, [.v (.int .u64 0)], .int .u64, false⟩
  | 234 => some ⟨1, 24, [.v (.slice none 0 0)], .sl 236, false⟩
  | 235 => some ⟨2, 16, [.v (.int .i64 0), .v (.int .i64 0)], .st [(0, 3), (1, 3)], true⟩
  | 236 => some ⟨2, 16, [.v (.int .i64 0), .v (.int .i64 0)], .st [(0, 3), (1, 3)], true⟩
  | 238 => some ⟨1, 8, [.v (.pointer none)], .ptr 247, false⟩
  | 239 => some ⟨1, 8, [.v (.pointer none)], .ptr 226, false⟩
  | 241 => some ⟨2, 2, [.v (.int .u8 0), .v (.int .u8 0)], .st [(0, 5), (1, 5)], true⟩
  | 242 => some ⟨2, 2, [.v (.int .u8 0), .v (.int .u8 0)], .st [(0, 5), (1, 5)], true⟩
  | 243 => some ⟨32, 32, List.replicate 32 (.v (.int .u8 0)), .arr 16 242, false⟩
  | 244 => some ⟨1, 24, [.v (.slice none 0 0)], .sl 249, false⟩
  | 245 => some ⟨1, 24, [.v (.slice none 0 0)], .sl 252, false⟩
  | _ => none
theorem tabc_ok_2 : TabOk Tryd.prog tabc_2 := by
  intro t i h
  unfold tabc_2 at h
  split at h
  · exact Option.some.inj h ▸ ty_127
  · exact Option.some.inj h ▸ ty_129
  · exact Option.some.inj h ▸ ty_130
  · exact Option.some.inj h ▸ ty_132
  · exact Option.some.inj h ▸ ty_133
  · exact Option.some.inj h ▸ ty_137
  · exact Option.some.inj h ▸ ty_138
  · exact Option.some.inj h ▸ ty_140
  · exact Option.some.inj h ▸ ty_144
  · exact Option.some.inj h ▸ ty_145
  · exact Option.some.inj h ▸ ty_148
  · exact Option.some.inj h ▸ ty_149
  · exact Option.some.inj h ▸ ty_150
  · exact Option.some.inj h ▸ ty_152
  · exact Option.some.inj h ▸ ty_158
  · exact Option.some.inj h ▸ ty_159
  · exact Option.some.inj h ▸ ty_163
  · exact Option.some.inj h ▸ ty_164
  · exact Option.some.inj h ▸ ty_168
  · exact Option.some.inj h ▸ ty_169
  · exact Option.some.inj h ▸ ty_170
  · exact Option.some.inj h ▸ ty_182
  · exact Option.some.inj h ▸ ty_188
  · exact Option.some.inj h ▸ ty_190
  · exact Option.some.inj h ▸ ty_197
  · exact Option.some.inj h ▸ ty_205
  · exact Option.some.inj h ▸ ty_215
  · exact Option.some.inj h ▸ ty_222
  · exact Option.some.inj h ▸ ty_224
  · exact Option.some.inj h ▸ ty_226
  · exact Option.some.inj h ▸ ty_234
  · exact Option.some.inj h ▸ ty_235
  · exact Option.some.inj h ▸ ty_236
  · exact Option.some.inj h ▸ ty_238
  · exact Option.some.inj h ▸ ty_239
  · exact Option.some.inj h ▸ ty_241
  · exact Option.some.inj h ▸ ty_242
  · exact Option.some.inj h ▸ ty_243
  · exact Option.some.inj h ▸ ty_244
  · exact Option.some.inj h ▸ ty_245
  · cases h
def tabc_3 : Nat → Option TyI
  | 246 => some ⟨3, 56, [.v (.slice none 0 0), .v (.slice none 0 0), .v (.int .i64 0)], .st [(0, 244), (1, 245), (2, 3)], false⟩
  | 247 => some ⟨3, 56, [.v (.slice none 0 0), .v (.slice none 0 0), .v (.int .i64 0)], .st [(0, 244), (1, 245), (2, 3)], false⟩
  | 248 => some ⟨3, 6, [.v (.int .u16 0), .v (.int .u16 0), .v (.int .u16 0)], .st [(0, 41), (1, 41), (2, 41)], true⟩
  | 249 => some ⟨3, 6, [.v (.int .u16 0), .v (.int .u16 0), .v (.int .u16 0)], .st [(0, 41), (1, 41), (2, 41)], true⟩
  | 251 => some ⟨3, 12, [.v (.int .u32 0), .v (.int .u32 0), .v (.int .u32 0)], .st [(0, 38), (1, 38), (2, 38)], true⟩
  | 252 => some ⟨3, 12, [.v (.int .u32 0), .v (.int .u32 0), .v (.int .u32 0)], .st [(0, 38), (1, 38), (2, 38)], true⟩
  | 254 => some ⟨1, 8, [.v (.pointer none)], .ptr 249, false⟩
  | 255 => some ⟨1, 8, [.v (.pointer none)], .ptr 252, false⟩
  | 256 => some ⟨4, 40, [.v (.pointer none), .v (.pointer none), .v (.pointer none), .v (.string ⟨#[]⟩)], .st [(0, 17), (1, 17), (2, 17), (3, 9)], false⟩
  | 257 => some ⟨4, 40, [.v (.pointer none), .v (.pointer none), .v (.pointer none), .v (.string ⟨#[]⟩)], .st [(0, 17), (1, 17), (2, 17), (3, 9)], false⟩
  | 258 => some ⟨0, 0, [], .arr 0 16, false⟩
  | 259 => some ⟨0, 0, [], .st [(0, 258)], false⟩
  | 260 => some ⟨0, 0, [], .st [(0, 258)], false⟩
  | 262 => some ⟨1, 1, [.v (.int .u8 0)], .int .u8, false⟩
  | 263 => some ⟨1, 1, [.v (.int .u8 0)], .int .u8, false⟩
  | 265 => some ⟨1, 4, [.v (.int .i32 0)], .int .i32, false⟩
  | 266 => some ⟨1, 4, [.v (.int .i32 0)], .int .i32, false⟩
  | 267 => some ⟨11, 48, [.v (.int .u64 0), .v (.int .u64 0), .v (.int .u32 0), .v (.int .u8 0), .v (.int .u8 0), .v (.int .u8 0), .v (.int .u8 0), .v (.nilFunc), .v (.pointer none), .v (.int .i32 0), .v (.int .i32 0)], .st [(0, 12), (1, 12), (2, 38), (3, 262), (4, 5), (5, 5), (6, 263), (7, 264), (8, 164), (9, 265), (10, 266)], false⟩
  | 268 => some ⟨11, 48, [.v (.int .u64 0), .v (.int .u64 0), .v (.int .u32 0), .v (.int .u8 0), .v (.int .u8 0), .v (.int .u8 0), .v (.int .u8 0), .v (.nilFunc), .v (.pointer none), .v (.int .i32 0), .v (.int .i32 0)], .st [(0, 12), (1, 12), (2, 38), (3, 262), (4, 5), (5, 5), (6, 263), (7, 264), (8, 164), (9, 265), (10, 266)], false⟩
  | _ => none
theorem tabc_ok_3 : TabOk Tryd.prog tabc_3 := by
  intro t i h
  unfold tabc_3 at h
  split at h
  · exact Option.some.inj h ▸ ty_246
  · exact Option.some.inj h ▸ ty_247
  · exact Option.some.inj h ▸ ty_248
  · exact Option.some.inj h ▸ ty_249
  · exact Option.some.inj h ▸ ty_251
  · exact Option.some.inj h ▸ ty_252
  · exact Option.some.inj h ▸ ty_254
  · exact Option.some.inj h ▸ ty_255
  · exact Option.some.inj h ▸ ty_256
  · exact Option.some.inj h ▸ ty_257
  · exact Option.some.inj h ▸ ty_258
  · exact Option.some.inj h ▸ ty_259
  · exact Option.some.inj h ▸ ty_260
  · exact Option.some.inj h ▸ ty_262
  · exact Option.some.inj h ▸ ty_263
  · exact Option.some.inj h ▸ ty_265
  · exact Option.some.inj h ▸ ty_266
  · exact Option.some.inj h ▸ ty_267
  · exact Option.some.inj h ▸ ty_268
  · cases h
def tab (t : Nat) : Option TyI := (tabc_0 t).or ((tabc_1 t).or ((tabc_2 t).or ((tabc_3 t).or (none))))
theorem tab_ok : TabOk Tryd.prog tab := by
  intro t i h
  unfold tab at h
  rcases Option.or_eq_some_iff.1 h with h | ⟨-, h⟩
  · exact tabc_ok_0 t i h
  rcases Option.or_eq_some_iff.1 h with h | ⟨-, h⟩
  · exact tabc_ok_1 t i h
  rcases Option.or_eq_some_iff.1 h with h | ⟨-, h⟩
  · exact tabc_ok_2 t i h
  rcases Option.or_eq_some_iff.1 h with h | ⟨-, h⟩
  · exact tabc_ok_3 t i h
  cases h
theorem tab_5 : tab 5 = some ⟨1, 1, [.v (.int .u8 0)], .int .u8, false⟩ := rfl
theorem tab_150 : tab 150 = some ⟨1, 8, [.v (.nilFunc)], .fn, false⟩ := rfl
theorem tab_152 : tab 152 = some ⟨1, 8, [.v (.map none)], .mp 5 150, false⟩ := rfl
end
section
open Go.RowKit
set_option maxRecDepth 10000
theorem cells_putY {s : List UInt8} {m : Nat} {v : UInt8} (h : m < s.length) : putL (encL cY s) (m * 1) [U8 (v.toNat : Int)] = encL cY (s.set m v) := by
  have := encL_put cY s m 0 s[m] v [U8 (v.toNat : Int)] (List.getElem?_eq_getElem h) (Nat.le_refl _) rfl
  rw [cY_sz, Nat.mul_one, Nat.add_zero] at this
  rw [Nat.mul_one]; exact this
theorem cv_scr {v : Vw} {S : Scr} {a b c d : T} (k : Cv v a b) (k2 : Cv v c d) : CvL v (scrC S a c) (scrC S b d) :=
  .cons (.pure rfl) (.cons (.pure rfl) (.cons (.pure rfl) (.cons (.pure rfl) (.cons (.pure rfl) (.cons k (.cons k2 (.cons (.pure rfl) (.cons (.pure rfl) (.cons (.pure rfl) (.cons (.pure rfl) .nil))))))))))
theorem fits_p (c r : Int) : CallP Tryd.prog 37 [I64 c, I64 r] (BL (decide (1 ≤ c) && decide (c ≤ 128) && decide (1 ≤ r) && decide (r ≤ 64))) := by
  refine CallP.intro2 au_pu au_pu ?_
  refine CallT.intro tab_ok Tryd.func37 rfl (by kernel_rfl) (Nat.le_of_ble_eq_true rfl) ?_
  refine VC.reg tab_ok [] rfl ?_
  refine VX.meek rfl ?_
  refine VX.nil ?_
  refine VC.reg tab_ok [] rfl ?_
  iterate 3 refine VX.meek rfl ?_
  refine' VX.merge (d := 10) [_, _, _] rfl ?_ rfl ?_
  rotate_left
  · refine VX.guard rfl rfl (fun hb1_2 => ?_) (fun hb1_2 => ?_)
    · have ghb1_2 := hb1_2
      try simp only [au_std, Bool.not_true, Bool.not_false] at ghb1_2
      refine VX.meek rfl ?_
      refine VX.guardT rfl rfl hb1_2 ?_
      refine VX.meek rfl ?_
      refine VX.pickA rfl (fun _ => rfl) ?_
      exact VX.nil ⟨rfl, rfl⟩
    · refine VX.guardF rfl rfl hb1_2 ?_
      exact VX.pickA rfl (fun h => absurd (h.symm.trans hb1_2) (by decide)) (VX.nil ⟨rfl, rfl⟩)
  refine VX.meek rfl ?_
  refine' VX.merge (d := 14) [_, _, _] rfl ?_ rfl ?_
  rotate_left
  · refine VX.guard rfl rfl (fun hb1_6 => ?_) (fun hb1_6 => ?_)
    · have ghb1_6 := hb1_6
      try simp only [au_std, Bool.not_true, Bool.not_false] at ghb1_6
      refine VX.meek rfl ?_
      refine VX.guardT rfl rfl hb1_6 ?_
      refine VX.meek rfl ?_
      refine VX.pickA rfl (fun _ => rfl) ?_
      exact VX.nil ⟨rfl, rfl⟩
    · refine VX.guardF rfl rfl hb1_6 ?_
      exact VX.pickA rfl (fun h => absurd (h.symm.trans hb1_6) (by decide)) (VX.nil ⟨rfl, rfl⟩)
  refine VX.meek rfl ?_
  refine' VX.merge (d := 18) [_, _, _] rfl ?_ rfl ?_
  rotate_left
  · refine VX.guard rfl rfl (fun hb1_10 => ?_) (fun hb1_10 => ?_)
    · have ghb1_10 := hb1_10
      try simp only [au_std, Bool.not_true, Bool.not_false] at ghb1_10
      refine VX.meek rfl ?_
      refine VX.guardT rfl rfl hb1_10 ?_
      refine VX.meek rfl ?_
      refine VX.pickA rfl (fun _ => rfl) ?_
      exact VX.nil ⟨rfl, rfl⟩
    · refine VX.guardF rfl rfl hb1_10 ?_
      exact VX.pickA rfl (fun h => absurd (h.symm.trans hb1_10) (by decide)) (VX.nil ⟨rfl, rfl⟩)
  refine VX.meek rfl ?_
  refine VX.nil ?_
  refine VC.ret ?_
  exact ⟨trivial, _, rfl, Cv.eq (by first | rfl | (simp [*]; done)) rfl⟩
theorem clear_t (S : Scr) (a b : Nat) (hb : b ≤ S.grid.length) (hg : S.grid.length ≤ 8192) (ha : a ≤ 100000) : CallT Tryd.prog 73 [.ptr 0 0, I64 a, I64 b] (scH S) (fun t H' => t = .tup [] ∧ H' = scH (S.clear a b)) := by
  have hcl : (clearL S.grid a b).length = S.grid.length := clearL_len _ _ _ hb
  refine CallT.intro tab_ok Tryd.func73 rfl (by kernel_rfl) (Nat.le_of_ble_eq_true rfl) ?_
  refine VC.reg tab_ok [] rfl ?_
  iterate 2 refine VX.meek rfl ?_
  refine VX.nil ?_
  refine VC.block ?_
  refine VC.loopS (σ := Nat) (fun i => b - i) (fun i => a ≤ i ∧ (i ≤ b ∨ i = a)) (fun i => [(6, I64 i), (0, .ptr 0 0)]) (fun i => [.c (scrC S (.slc 1 0 S.grid.length 1 none) (.slc 2 0 S.kept.length 1 none)), .c (encL cY (clearL S.grid a i)), .c (encL cStr S.kept)]) [2] rfl (a) ?_ ?_ ?_
  · refine ⟨[some 0, some 1, some 2], rfl, by first | trivial | decide, rfl, ?_, ?_⟩ <;> (repeat' first | exact trivial | exact CvB_n | exact CvB_d | exact CvB_o rfl | refine CvE_app ?_ ?_ | refine CvE_cons rfl ?_ ?_ | refine CvH_cons ?_ ?_ | refine CvB_c rfl ?_ | fail) <;> first | exact au_v | (first | exact cv_scr (Cv.slc rfl (.inl rfl)) (Cv.slc rfl (.inl rfl)) | exact CvL.pure (encL_pure cStr _) | exact CvL.eq (congrArg (encL cY) (clearL_none _ _ _ (Nat.le_refl _)).symm) (encL_pure cY _))
  · exact ⟨Nat.le_refl _, .inr rfl⟩
  rintro i ⟨hi, hi2⟩
  refine VC.seq ?_
  refine VC.reg tab_ok [] rfl ?_
  iterate 3 refine VX.meek rfl ?_
  refine VX.nil ?_
  refine VC.cond rfl (fun hc0 => ?_) (fun hc0 => ?_)
  · (try simp only [au_std] at hc0); have hil : i < b := (by omega); have hlen : (clearL S.grid a i).length = S.grid.length := clearL_len _ _ _ (by omega); have hst := clearL_step S.grid a i hi (by omega)
    refine VC.skip ?_
    refine VC.seq ?_
    refine VC.block ?_
    refine VC.regN tab_ok [] rfl ?_
    iterate 3 refine VX.meek rfl ?_
    first | refine VX.meek rfl ?_ | refine VX.loadI rfl rfl au_l ?_ | refine VX.loadP rfl rfl rfl au_l ?_
    refine VX.meek rfl ?_
    first | refine VX.idxI rfl rfl rfl rfl rfl rfl (by omega) ?_ | refine VX.idxO0 rfl rfl rfl rfl rfl rfl rfl (by omega) ?_ | refine VX.idxO0 rfl rfl rfl rfl rfl rfl au_z (by omega) ?_ | refine VX.idxO rfl rfl rfl rfl rfl rfl rfl (by omega) ?_ | refine VX.idxI rfl rfl rfl rfl rfl au_z (by omega) ?_ | refine VX.idxO rfl rfl rfl rfl rfl rfl au_z (by omega) ?_ | refine VX.meek rfl ?_
    refine VX.store rfl rfl rfl rfl rfl (by rw [encL_len, cY_sz]; (try dsimp only); omega) rfl ?_
    refine VX.nil ?_
    refine VC.regN tab_ok [] rfl ?_
    refine VX.meek rfl ?_
    first | refine VX.add rfl rfl (by omega) ?_ | refine VX.meek rfl ?_
    refine VX.meek rfl ?_
    refine VX.nil ?_
    refine ⟨i + 1, by (try dsimp only); omega, ?_, (by refine ⟨[some 0, some 1, some 2], rfl, by first | trivial | decide, rfl, ?_, ?_⟩ <;> (repeat' first | exact trivial | exact CvB_n | exact CvB_d | exact CvB_o rfl | refine CvE_app ?_ ?_ | refine CvE_cons rfl ?_ ?_ | refine CvH_cons ?_ ?_ | refine CvB_c rfl ?_ | fail) <;> first | exact au_v | (first | exact cv_scr (Cv.slc rfl (.inl rfl)) (Cv.slc rfl (.inl rfl)) | exact CvL.pure (encL_pure cStr _) | exact CvL.eq ((cells_putY (v := 32) (by omega)).trans (congrArg (encL cY) hst)) (encL_pure cY _)))⟩
    (try dsimp only); omega
  · (try simp only [au_std] at hc0); have hfin : clearL S.grid a i = clearL S.grid a b := (by rcases hi2 with h | h; (rw [show i = b from by omega]); (rw [h, clearL_none _ _ _ (Nat.le_refl _), clearL_none _ _ _ (by omega)])); rw [hfin]
    refine VC.exit ?_
    exact ⟨trivial, _, rfl, rfl, by unfold scH Scr.clear; simp only [hcl]⟩
theorem clear_n (S : Scr) (n a b : Nat) (hn : S.grid.length = n) (hb : b ≤ n) (hg : n ≤ 8192) (ha : a ≤ 100000) : CallT Tryd.prog 73 [.ptr 0 0, I64 a, I64 b] [.c (scrC S (.slc 1 0 n 1 none) (.slc 2 0 S.kept.length 1 none)), .c (encL cY S.grid), .c (encL cStr S.kept)]
    (fun t H' => t = .tup [] ∧ H' = [.c (scrC S (.slc 1 0 n 1 none) (.slc 2 0 S.kept.length 1 none)), .c (encL cY (clearL S.grid a b)), .c (encL cStr S.kept)]) := by
  subst hn
  refine (clear_t S a b hb hg ha).mono ?_
  rintro t H' ⟨rfl, rfl⟩
  refine ⟨rfl, ?_⟩
  unfold scH Scr.clear
  simp only [clearL_len _ _ _ hb]
theorem app_kept (k : List (List UInt8)) (o n : Nat) (l : List UInt8) (hn : n = k.length - o) : ((encL cStr k).drop o).take (n * 1) ++ [strT l] = encL cStr (k.drop o ++ [l]) := by
  have h1 := encL_drop cStr k o
  rw [cStr_sz, Nat.mul_one] at h1
  rw [encL_append, h1, List.take_of_length_le (by rw [encL_len, cStr_sz, List.length_drop]; omega)]
  rfl
theorem keep_t (S : Scr) (l : List UInt8) (ok : S.Ok) (hm : S.most = 0 ∨ 2 ≤ S.most) : CallT Tryd.prog 143 [.ptr 0 0, strT l] (scH S) (fun t H' => ((t = .tup [] ∧ H' = scH (S.keep l)) ∧ S.most = 0) ∨ (t = .tup [] ∧ H' = scH3 (S.keep l))) := by
  have hk := ok.k
  have hmm := ok.m
  refine CallT.intro tab_ok Tryd.func143 rfl (by kernel_rfl) (Nat.le_of_ble_eq_true rfl) ?_
  refine VC.seq ?_
  refine VC.reg tab_ok [] rfl ?_
  iterate 3 refine VX.meek rfl ?_
  first | refine VX.meek rfl ?_ | refine VX.loadI rfl rfl au_l ?_ | refine VX.loadP rfl rfl rfl au_l ?_
  refine VX.meek rfl ?_
  refine VX.nil ?_
  refine VC.cond rfl (fun hc0 => ?_) (fun hc0 => ?_)
  · (try simp only [au_std] at hc0); have h0 : S.most = 0 := (by omega); have e : S.keep l = S := (by unfold Scr.keep; rw [if_pos h0])
    refine VC.ret ?_
    exact ⟨trivial, _, rfl, .inl ⟨⟨rfl, by rw [e]⟩, h0⟩⟩
  · (try simp only [au_std] at hc0); have h0 : ¬ S.most = 0 := (by omega)
    refine VC.skip ?_
    refine VC.seq ?_
    refine VC.drw tab_ok [] [_, _, _, _, _, _, _, _, _, _] rfl (by kernel_rfl) (by kernel_rfl) ?_
    iterate 3 refine VX.meek rfl ?_
    first | refine VX.meek rfl ?_ | refine VX.loadI rfl rfl au_l ?_ | refine VX.loadP rfl rfl rfl au_l ?_
    iterate 4 refine VX.meek rfl ?_
    first | refine VX.meek rfl ?_ | refine VX.loadI rfl rfl au_l ?_ | refine VX.loadP rfl rfl rfl au_l ?_
    refine VX.meek rfl ?_
    refine VX.nil ?_
    refine VX.nil ?_
    refine VC.cond rfl (fun hc1 => ?_) (fun hc1 => ?_)
    · (try simp only [au_std] at hc1); have h1 : S.most ≤ S.kept.length := (by omega); have e : S.keep l = { S with kept := S.kept.drop 1 ++ [l] } := (by unfold Scr.keep; rw [if_neg h0, if_pos h1, List.drop_one]); have hak := app_kept S.kept 1 (S.kept.length - 1) l rfl; have hkl : (S.kept.drop 1 ++ [l]).length = S.kept.length - 1 + 1 := (by rw [List.length_append, List.length_drop]; rfl)
      refine VC.regN tab_ok [] rfl ?_
      iterate 4 refine VX.meek rfl ?_
      first | refine VX.meek rfl ?_ | refine VX.loadI rfl rfl au_l ?_ | refine VX.loadP rfl rfl rfl au_l ?_
      refine VX.slcO (p := 1) (r := S.kept.length) rfl rfl rfl rfl rfl rfl rfl rfl rfl rfl (by omega) (by omega) (by omega) ?_
      iterate 2 refine VX.meek rfl ?_
      refine VX.store rfl rfl rfl rfl rfl au_sY rfl ?_
      refine VX.nil ?_
      refine VC.regN tab_ok [33] rfl ?_
      iterate 4 refine VX.meek rfl ?_
      first | refine VX.meek rfl ?_ | refine VX.loadI rfl rfl au_l ?_ | refine VX.loadP rfl rfl rfl au_l ?_
      refine VX.meek rfl ?_
      refine VX.newI rfl rfl ?_
      first | refine VX.appendNil rfl rfl rfl rfl rfl rfl au_sY au_sY au_sY ?_ | refine VX.append rfl rfl rfl rfl rfl rfl rfl rfl au_sY au_sY au_sY au_sY au_sY ?_
      iterate 2 refine VX.meek rfl ?_
      refine VX.store rfl rfl rfl rfl rfl au_sY rfl ?_
      refine VX.nil ?_
      exact ⟨trivial, _, rfl, .inr ⟨rfl, by rw [e]; unfold scH3; simp only [hkl]; rw [← hak]; rfl⟩⟩
    · (try simp only [au_std] at hc1); have h1 : ¬ S.most ≤ S.kept.length := (by omega); have e : S.keep l = { S with kept := S.kept.drop 0 ++ [l] } := (by unfold Scr.keep; rw [if_neg h0, if_neg h1, List.drop_zero]); have hak := app_kept S.kept 0 S.kept.length l rfl; have hkl : (S.kept.drop 0 ++ [l]).length = S.kept.length + 1 := (by rw [List.drop_zero, List.length_append]; rfl)
      refine VC.skip ?_
      refine VC.regN tab_ok [33] rfl ?_
      iterate 4 refine VX.meek rfl ?_
      first | refine VX.meek rfl ?_ | refine VX.loadI rfl rfl au_l ?_ | refine VX.loadP rfl rfl rfl au_l ?_
      refine VX.meek rfl ?_
      refine VX.newI rfl rfl ?_
      first | refine VX.appendNil rfl rfl rfl rfl rfl rfl au_sY au_sY au_sY ?_ | refine VX.append rfl rfl rfl rfl rfl rfl rfl rfl au_sY au_sY au_sY au_sY au_sY ?_
      iterate 2 refine VX.meek rfl ?_
      refine VX.store rfl rfl rfl rfl rfl au_sY rfl ?_
      refine VX.nil ?_
      exact ⟨trivial, _, rfl, .inr ⟨rfl, by rw [e]; unfold scH3; simp only [hkl]; rw [← hak]; rfl⟩⟩
theorem copy_down {tab : Tab} {H : Hp} {t1 t2 e b k n : Nat} {i i2 j : TyI} {g : List UInt8} {c c2 : Option Nat} {r m : Nat} (hT : tab t1 = some i) (hk : i.k = .sl e) (hj : tab e = some j) (hz : j.sz = 1) (hT2 : tab t2 = some i2) {e2 : Nat} (hk2 : i2.k = .sl e2) (hb : lookH H b = some (encL cY g)) (hn : n = g.length) (hkn : k ≤ n) (hr : r = k * 1) (hm : m = n - k) :
    mCopy tab H t1 t2 (.slc b 0 n 1 c) (.slc b r m 1 c2) = some (.v (.int .i64 (min m n : Nat)), setH H b (.c (encL cY (g.drop k ++ g.drop (n - k))))) := by
  subst hn hr hm
  have hl : (encL cY g).length = g.length := by rw [encL_len, cY_sz, Nat.mul_one]
  have hd : (encL cY g).drop k = encL cY (g.drop k) := by have := encL_drop cY g k; rwa [cY_sz, Nat.mul_one] at this
  have ht : ((encL cY g).drop (k * 1)).take ((g.length - k) * 1) = encL cY (g.drop k) := by
    rw [Nat.mul_one, Nat.mul_one, hd, List.take_of_length_le (by rw [encL_len, cY_sz, List.length_drop]; omega)]
  have hp : putL (encL cY g) 0 ((encL cY (g.drop k)).take (min (g.length - k) g.length * 1)) = encL cY (g.drop k ++ g.drop (g.length - k)) := by
    rw [List.take_of_length_le (by rw [encL_len, cY_sz, List.length_drop]; omega)]
    unfold putL
    rw [List.take_zero, List.nil_append, Nat.zero_add, encL_len, cY_sz, Nat.mul_one, List.length_drop, encL_append]
    congr 1
    have := encL_drop cY g (g.length - k)
    rwa [cY_sz, Nat.mul_one] at this
  have hcb : (encL cY (g.drop k)).all cellB = true := encL_cb cY _
  simp only [mCopy, hT, hk, hj, srcCells, hT2, hk2, hb, hz]
  rw [if_pos ⟨trivial, by omega⟩]
  simp only [ht]
  rw [if_pos ⟨trivial, by omega, by rw [encL_len, cY_sz, List.length_drop], hcb⟩, hp]
theorem copy_nil {tab : Tab} {H : Hp} {t1 t2 e b : Nat} {i i2 j : TyI} {g g' : List UInt8} {c c2 : Option Nat} (hT : tab t1 = some i) (hk : i.k = .sl e) (hj : tab e = some j) (hz : j.sz = 1) (hT2 : tab t2 = some i2) {e2 : Nat} (hk2 : i2.k = .sl e2) (hb : lookH H b = some (encL cY g)) (hg : g' = g) :
    mCopy tab H t1 t2 (.slc b 0 g.length 1 c) (.islc [] 0 c2) = some (.v (.int .i64 (0 : Nat)), setH H b (.c (encL cY g'))) := by
  subst hg
  have hl : (encL cY g').length = g'.length := by rw [encL_len, cY_sz, Nat.mul_one]
  simp only [mCopy, hT, hk, hj, srcCells, hT2, hk2, hb, hz]
  rw [if_pos (by simp)]
  simp only [Nat.zero_mul, List.take_nil, List.length_nil]
  rw [if_pos ⟨trivial, by omega, trivial, rfl⟩]
  simp [putL]
section
variable {q : Bool} {P : Program} {tab : Tab} {im : List Nat} {ds : List (Option Nat)} {l : List Oper} {E : Env} {H : Hp} {K : Env → Hp → Prop} {d : Nat} {ty : TypeId} {pos : String} {after : Array Edge}
theorem VX.slcOE [Dr] {t e b o n z p : Nat} {x : Operand} {lo hi : Option Operand} {L Hh : Option Int} {i j : TyI} {c : Option Nat} (hT : tab t = some i) (hk : i.k = .sl e) (hj : tab e = some j) (hx : E.opd x = some (.slc b o n z c)) (hz : j.sz = z) (hl : optI lo E.opd = some L) (hh : optI hi E.opd = some Hh)
    (hp : L.getD 0 = (p : Int)) (hr : Hh.getD n = (n : Int)) (h1 : p = n) (h3 : 0 < p) (k : VX q P tab im ds l ((d, .islc [] 0 none) :: E) H K) : VX q P tab im ds (⟨some d, .slice t x lo hi none, ty, pos, after, none⟩ :: l) E H K := by
  refine VX.meek (t := .islc [] 0 none) ?_ k
  simp only [opM, hx, hl, hh, mSlice, hT, hk, hj, show optI none E.opd = some none from rfl]
  rw [if_pos hz, hp, hr, if_pos ⟨by omega, by omega, by omega⟩, if_neg (by omega)]
end
theorem scroll_t (S : Scr) (ok : S.Ok) (hm : S.most = 0 ∨ 2 ≤ S.most) : CallT Tryd.prog 113 [.ptr 0 0] (scH S) (fun t H' => (t = .tup [] ∧ H' = scH S.scroll) ∨ (t = .tup [] ∧ H' = scH3 S.scroll)) := by
  have hcS := ok.cg
  have hgS := ok.g2
  have hkp := keep_t S (S.grid.take S.cols) ok hm
  have e1 := Scr.keep_grid S (S.grid.take S.cols)
  have e2 := Scr.keep_cols S (S.grid.take S.cols)
  have htk : ((encL cY S.grid).drop 0).take S.cols = encL cY (S.grid.take S.cols) := by
    have := encL_take cY S.grid S.cols
    rw [cY_sz, Nat.mul_one] at this
    rw [List.drop_zero]; exact this
  obtain ⟨S1, hS1⟩ : ∃ S1, S1 = S.keep (S.grid.take S.cols) := ⟨_, rfl⟩
  rw [← hS1] at hkp e1 e2
  have hsc : S.scroll = S1.withGrid (S1.grid.drop S1.cols ++ List.replicate S1.cols 32) := by unfold Scr.scroll; rw [← hS1, e1, e2]
  have hcg : S1.cols ≤ S1.grid.length := by rw [e1, e2]; exact hcS
  have hg2 : S1.grid.length ≤ 8192 := by rw [e1]; exact hgS
  rw [hsc]
  clear hsc hS1
  have hc1 : 1 ≤ S1.cols := by rw [e2]; exact ok.c1
  have hlg : (S1.grid.drop S1.cols ++ S1.grid.drop (S1.grid.length - S1.cols)).length = S1.grid.length := by rw [List.length_append, List.length_drop, List.length_drop]; omega
  have hcn := clear_n (S1.withGrid (S1.grid.drop S1.cols ++ S1.grid.drop (S1.grid.length - S1.cols))) S1.grid.length (S1.grid.length - S1.cols) S1.grid.length hlg (Nat.le_refl _) (by omega) (by omega)
  have hfg : clearL (S1.grid.drop S1.cols ++ S1.grid.drop (S1.grid.length - S1.cols)) (S1.grid.length - S1.cols) S1.grid.length = S1.grid.drop S1.cols ++ List.replicate S1.cols 32 := scroll_grid _ _ hcg
  have hfl : (S1.grid.drop S1.cols ++ List.replicate S1.cols (32 : UInt8)).length = S1.grid.length := by rw [List.length_append, List.length_drop, List.length_replicate]; omega
  rcases Nat.lt_or_ge S1.cols S1.grid.length with hlt | hge
  case inl =>
    refine CallT.intro tab_ok Tryd.func113 rfl (by kernel_rfl) (Nat.le_of_ble_eq_true rfl) ?_
    refine VC.drw tab_ok [] [_, _, _, _, _, _, _, _, _, _, _] rfl (by kernel_rfl) (by kernel_rfl) ?_
    iterate 4 refine VX.meek rfl ?_
    first | refine VX.meek rfl ?_ | refine VX.loadI rfl rfl au_l ?_ | refine VX.loadP rfl rfl rfl au_l ?_
    iterate 3 refine VX.meek rfl ?_
    first | refine VX.meek rfl ?_ | refine VX.loadI rfl rfl au_l ?_ | refine VX.loadP rfl rfl rfl au_l ?_
    refine VX.slcO0 (r := S.cols) rfl rfl rfl rfl rfl rfl rfl (by omega) ?_
    refine VX.strY rfl rfl rfl rfl rfl rfl rfl rfl (by rw [encL_len, cY_sz]; omega) htk ?_
    refine VX.nil ?_
    refine VX.callT rfl rfl (CallT.frame (hkp) [0, 1, 2] rfl au_ci au_ci ?_)
    rintro _ _ (⟨⟨rfl, rfl⟩, hk0⟩ | ⟨rfl, rfl⟩)
    · refine frK au_co au_co ?_
      refine VX.nil ?_
      refine VC.drw tab_ok [] [_, _, _, _, _, _, _, _, _, _, _, _, _] rfl (by kernel_rfl) (by kernel_rfl) ?_
      iterate 3 refine VX.meek rfl ?_
      first | refine VX.meek rfl ?_ | refine VX.loadI rfl rfl au_l ?_ | refine VX.loadP rfl rfl rfl au_l ?_
      iterate 3 refine VX.meek rfl ?_
      first | refine VX.meek rfl ?_ | refine VX.loadI rfl rfl au_l ?_ | refine VX.loadP rfl rfl rfl au_l ?_
      iterate 3 refine VX.meek rfl ?_
      first | refine VX.meek rfl ?_ | refine VX.loadI rfl rfl au_l ?_ | refine VX.loadP rfl rfl rfl au_l ?_
      refine VX.slcO (p := S1.cols) (r := S1.grid.length) rfl rfl rfl rfl rfl rfl rfl rfl rfl rfl (by omega) (by omega) (by omega) ?_
      refine VX.nil ?_
      refine VX.copyX rfl rfl (copy_down (k := S1.cols) rfl rfl rfl rfl rfl rfl rfl rfl (by omega) (by omega) rfl) ?_
      refine VX.nil ?_
      refine VC.drwN tab_ok [] [_, _, _, _, _, _, _, _, _, _, _, _, _, _, _, _] rfl (by kernel_rfl) (by kernel_rfl) ?_
      iterate 4 refine VX.meek rfl ?_
      first | refine VX.meek rfl ?_ | refine VX.loadI rfl rfl au_l ?_ | refine VX.loadP rfl rfl rfl au_l ?_
      iterate 4 refine VX.meek rfl ?_
      first | refine VX.meek rfl ?_ | refine VX.loadI rfl rfl au_l ?_ | refine VX.loadP rfl rfl rfl au_l ?_
      refine VX.sub rfl rfl (by omega) ?_; rw [show ((S1.grid.length : Nat) : Int) - (S1.cols : Int) = ((S1.grid.length - S1.cols : Nat) : Int) from by omega]
      iterate 3 refine VX.meek rfl ?_
      first | refine VX.meek rfl ?_ | refine VX.loadI rfl rfl au_l ?_ | refine VX.loadP rfl rfl rfl au_l ?_
      refine VX.meek rfl ?_
      refine VX.nil ?_
      refine VX.callT rfl rfl (CallT.frame (hcn) [0, 1, 2] rfl au_ci au_ci ?_)
      rintro _ _ ⟨rfl, rfl⟩
      refine frK au_co au_co ?_
      refine VX.nil ?_
      exact ⟨trivial, _, rfl, .inl ⟨rfl, by unfold scH Scr.withGrid; simp only [hfl]; rw [← hfg]; rfl⟩⟩
    · refine frK au_co au_co ?_
      refine VX.nil ?_
      refine VC.drw tab_ok [] [_, _, _, _, _, _, _, _, _, _, _, _, _] rfl (by kernel_rfl) (by kernel_rfl) ?_
      iterate 3 refine VX.meek rfl ?_
      first | refine VX.meek rfl ?_ | refine VX.loadI rfl rfl au_l ?_ | refine VX.loadP rfl rfl rfl au_l ?_
      iterate 3 refine VX.meek rfl ?_
      first | refine VX.meek rfl ?_ | refine VX.loadI rfl rfl au_l ?_ | refine VX.loadP rfl rfl rfl au_l ?_
      iterate 3 refine VX.meek rfl ?_
      first | refine VX.meek rfl ?_ | refine VX.loadI rfl rfl au_l ?_ | refine VX.loadP rfl rfl rfl au_l ?_
      refine VX.slcO (p := S1.cols) (r := S1.grid.length) rfl rfl rfl rfl rfl rfl rfl rfl rfl rfl (by omega) (by omega) (by omega) ?_
      refine VX.nil ?_
      refine VX.copyX rfl rfl (copy_down (k := S1.cols) rfl rfl rfl rfl rfl rfl rfl rfl (by omega) (by omega) rfl) ?_
      refine VX.nil ?_
      refine VC.drwN tab_ok [] [_, _, _, _, _, _, _, _, _, _, _, _, _, _, _, _] rfl (by kernel_rfl) (by kernel_rfl) ?_
      iterate 4 refine VX.meek rfl ?_
      first | refine VX.meek rfl ?_ | refine VX.loadI rfl rfl au_l ?_ | refine VX.loadP rfl rfl rfl au_l ?_
      iterate 4 refine VX.meek rfl ?_
      first | refine VX.meek rfl ?_ | refine VX.loadI rfl rfl au_l ?_ | refine VX.loadP rfl rfl rfl au_l ?_
      refine VX.sub rfl rfl (by omega) ?_; rw [show ((S1.grid.length : Nat) : Int) - (S1.cols : Int) = ((S1.grid.length - S1.cols : Nat) : Int) from by omega]
      iterate 3 refine VX.meek rfl ?_
      first | refine VX.meek rfl ?_ | refine VX.loadI rfl rfl au_l ?_ | refine VX.loadP rfl rfl rfl au_l ?_
      refine VX.meek rfl ?_
      refine VX.nil ?_
      refine VX.callT rfl rfl (CallT.frame (hcn) [0, 1, 3] rfl au_ci au_ci ?_)
      rintro _ _ ⟨rfl, rfl⟩
      refine frK au_co au_co ?_
      refine VX.nil ?_
      exact ⟨trivial, _, rfl, .inr ⟨rfl, by unfold scH3 Scr.withGrid; simp only [hfl]; rw [← hfg]; rfl⟩⟩
  case inr =>
    have hgg : S1.grid.drop S1.cols ++ S1.grid.drop (S1.grid.length - S1.cols) = S1.grid := by rw [List.drop_of_length_le hge, show S1.grid.length - S1.cols = 0 from by omega]; rfl
    refine CallT.intro tab_ok Tryd.func113 rfl (by kernel_rfl) (Nat.le_of_ble_eq_true rfl) ?_
    refine VC.drw tab_ok [] [_, _, _, _, _, _, _, _, _, _, _] rfl (by kernel_rfl) (by kernel_rfl) ?_
    iterate 4 refine VX.meek rfl ?_
    first | refine VX.meek rfl ?_ | refine VX.loadI rfl rfl au_l ?_ | refine VX.loadP rfl rfl rfl au_l ?_
    iterate 3 refine VX.meek rfl ?_
    first | refine VX.meek rfl ?_ | refine VX.loadI rfl rfl au_l ?_ | refine VX.loadP rfl rfl rfl au_l ?_
    refine VX.slcO0 (r := S.cols) rfl rfl rfl rfl rfl rfl rfl (by omega) ?_
    refine VX.strY rfl rfl rfl rfl rfl rfl rfl rfl (by rw [encL_len, cY_sz]; omega) htk ?_
    refine VX.nil ?_
    refine VX.callT rfl rfl (CallT.frame (hkp) [0, 1, 2] rfl au_ci au_ci ?_)
    rintro _ _ (⟨⟨rfl, rfl⟩, hk0⟩ | ⟨rfl, rfl⟩)
    · refine frK au_co au_co ?_
      refine VX.nil ?_
      refine VC.drw tab_ok [] [_, _, _, _, _, _, _, _, _, _, _, _, _] rfl (by kernel_rfl) (by kernel_rfl) ?_
      iterate 3 refine VX.meek rfl ?_
      first | refine VX.meek rfl ?_ | refine VX.loadI rfl rfl au_l ?_ | refine VX.loadP rfl rfl rfl au_l ?_
      iterate 3 refine VX.meek rfl ?_
      first | refine VX.meek rfl ?_ | refine VX.loadI rfl rfl au_l ?_ | refine VX.loadP rfl rfl rfl au_l ?_
      iterate 3 refine VX.meek rfl ?_
      first | refine VX.meek rfl ?_ | refine VX.loadI rfl rfl au_l ?_ | refine VX.loadP rfl rfl rfl au_l ?_
      refine VX.slcOE (p := S1.cols) rfl rfl rfl rfl rfl rfl rfl rfl rfl (by omega) (by omega) ?_
      refine VX.nil ?_
      refine VX.copyX rfl rfl (copy_nil (g := S1.grid) (g' := S1.grid.drop S1.cols ++ S1.grid.drop (S1.grid.length - S1.cols)) rfl rfl rfl rfl rfl rfl rfl hgg) ?_
      refine VX.nil ?_
      refine VC.drwN tab_ok [] [_, _, _, _, _, _, _, _, _, _, _, _, _, _, _, _] rfl (by kernel_rfl) (by kernel_rfl) ?_
      iterate 4 refine VX.meek rfl ?_
      first | refine VX.meek rfl ?_ | refine VX.loadI rfl rfl au_l ?_ | refine VX.loadP rfl rfl rfl au_l ?_
      iterate 4 refine VX.meek rfl ?_
      first | refine VX.meek rfl ?_ | refine VX.loadI rfl rfl au_l ?_ | refine VX.loadP rfl rfl rfl au_l ?_
      refine VX.sub rfl rfl (by omega) ?_; rw [show ((S1.grid.length : Nat) : Int) - (S1.cols : Int) = ((S1.grid.length - S1.cols : Nat) : Int) from by omega]
      iterate 3 refine VX.meek rfl ?_
      first | refine VX.meek rfl ?_ | refine VX.loadI rfl rfl au_l ?_ | refine VX.loadP rfl rfl rfl au_l ?_
      refine VX.meek rfl ?_
      refine VX.nil ?_
      refine VX.callT rfl rfl (CallT.frame (hcn) [0, 1, 2] rfl au_ci au_ci ?_)
      rintro _ _ ⟨rfl, rfl⟩
      refine frK au_co au_co ?_
      refine VX.nil ?_
      exact ⟨trivial, _, rfl, .inl ⟨rfl, by unfold scH Scr.withGrid; simp only [hfl]; rw [← hfg]; rfl⟩⟩
    · refine frK au_co au_co ?_
      refine VX.nil ?_
      refine VC.drw tab_ok [] [_, _, _, _, _, _, _, _, _, _, _, _, _] rfl (by kernel_rfl) (by kernel_rfl) ?_
      iterate 3 refine VX.meek rfl ?_
      first | refine VX.meek rfl ?_ | refine VX.loadI rfl rfl au_l ?_ | refine VX.loadP rfl rfl rfl au_l ?_
      iterate 3 refine VX.meek rfl ?_
      first | refine VX.meek rfl ?_ | refine VX.loadI rfl rfl au_l ?_ | refine VX.loadP rfl rfl rfl au_l ?_
      iterate 3 refine VX.meek rfl ?_
      first | refine VX.meek rfl ?_ | refine VX.loadI rfl rfl au_l ?_ | refine VX.loadP rfl rfl rfl au_l ?_
      refine VX.slcOE (p := S1.cols) rfl rfl rfl rfl rfl rfl rfl rfl rfl (by omega) (by omega) ?_
      refine VX.nil ?_
      refine VX.copyX rfl rfl (copy_nil (g := S1.grid) (g' := S1.grid.drop S1.cols ++ S1.grid.drop (S1.grid.length - S1.cols)) rfl rfl rfl rfl rfl rfl rfl hgg) ?_
      refine VX.nil ?_
      refine VC.drwN tab_ok [] [_, _, _, _, _, _, _, _, _, _, _, _, _, _, _, _] rfl (by kernel_rfl) (by kernel_rfl) ?_
      iterate 4 refine VX.meek rfl ?_
      first | refine VX.meek rfl ?_ | refine VX.loadI rfl rfl au_l ?_ | refine VX.loadP rfl rfl rfl au_l ?_
      iterate 4 refine VX.meek rfl ?_
      first | refine VX.meek rfl ?_ | refine VX.loadI rfl rfl au_l ?_ | refine VX.loadP rfl rfl rfl au_l ?_
      refine VX.sub rfl rfl (by omega) ?_; rw [show ((S1.grid.length : Nat) : Int) - (S1.cols : Int) = ((S1.grid.length - S1.cols : Nat) : Int) from by omega]
      iterate 3 refine VX.meek rfl ?_
      first | refine VX.meek rfl ?_ | refine VX.loadI rfl rfl au_l ?_ | refine VX.loadP rfl rfl rfl au_l ?_
      refine VX.meek rfl ?_
      refine VX.nil ?_
      refine VX.callT rfl rfl (CallT.frame (hcn) [0, 1, 3] rfl au_ci au_ci ?_)
      rintro _ _ ⟨rfl, rfl⟩
      refine frK au_co au_co ?_
      refine VX.nil ?_
      exact ⟨trivial, _, rfl, .inr ⟨rfl, by unfold scH3 Scr.withGrid; simp only [hfl]; rw [← hfg]; rfl⟩⟩
end
section
open Go.RowKit
set_option maxRecDepth 10000
theorem lineEnd_t (S : Scr) (ok : S.Ok) (hm : S.most = 0 ∨ 2 ≤ S.most) : CallT Tryd.prog 72 [.ptr 0 0] (scH S) (fun t H' => (t = .tup [] ∧ H' = scH S.lineEnd) ∨ (t = .tup [] ∧ H' = scH3 S.lineEnd)) := by
  have hy := ok.y
  have hr := ok.r2
  have ok0 : ({ S with x := 0 } : Scr).Ok := { ok with x := Nat.zero_le _ }
  have hsc := scroll_t { S with x := 0 } ok0 hm
  refine CallT.intro tab_ok Tryd.func72 rfl (by kernel_rfl) (Nat.le_of_ble_eq_true rfl) ?_
  refine VC.reg tab_ok [] rfl ?_
  iterate 3 refine VX.meek rfl ?_
  refine VX.store rfl rfl rfl rfl rfl au_sY rfl ?_
  refine VX.nil ?_
  refine VC.view ([(0, .ptr 0 0)]) ((scH { S with x := 0 })) [] rfl (by refine ⟨[some 0, some 1, some 2], rfl, by first | trivial | decide, rfl, ?_, ?_⟩ <;> (repeat' first | exact trivial | exact CvB_n | exact CvB_d | exact CvB_o rfl | refine CvE_app ?_ ?_ | refine CvE_cons rfl ?_ ?_ | refine CvH_cons ?_ ?_ | refine CvB_c rfl ?_ | fail) <;> first | exact au_v | (first | exact cv_scr (S := { S with x := 0 }) (Cv.slc rfl (.inl rfl)) (Cv.slc rfl (.inl rfl)) | exact CvL.pure (encL_pure cY _) | exact CvL.pure (encL_pure cStr _))) ?_
  refine VC.seq ?_
  refine VC.drw tab_ok [] [_, _, _, _, _, _, _, _, _, _] rfl (by kernel_rfl) (by kernel_rfl) ?_
  iterate 3 refine VX.meek rfl ?_
  first | refine VX.meek rfl ?_ | refine VX.loadI rfl rfl au_l ?_ | refine VX.loadP rfl rfl rfl au_l ?_
  refine VX.add rfl rfl (by dsimp only; omega) ?_; rw [show ((({ S with x := 0 } : Scr).y : Nat) : Int) + 1 = ((S.y + 1 : Nat) : Int) from by dsimp only; omega]
  iterate 3 refine VX.meek rfl ?_
  first | refine VX.meek rfl ?_ | refine VX.loadI rfl rfl au_l ?_ | refine VX.loadP rfl rfl rfl au_l ?_
  refine VX.meek rfl ?_
  refine VX.nil ?_
  refine VX.nil ?_
  refine VC.cond rfl (fun hc0 => ?_) (fun hc0 => ?_)
  · (try simp only [au_std] at hc0); have h1 : S.y + 1 < S.rows := (by omega); have e : S.lineEnd = { S with x := 0, y := S.y + 1 } := (by unfold Scr.lineEnd; rw [if_pos h1])
    refine VC.reg tab_ok [] rfl ?_
    iterate 3 refine VX.meek rfl ?_
    first | refine VX.meek rfl ?_ | refine VX.loadI rfl rfl au_l ?_ | refine VX.loadP rfl rfl rfl au_l ?_
    refine VX.add rfl rfl (by dsimp only; omega) ?_; rw [show ((({ S with x := 0 } : Scr).y : Nat) : Int) + 1 = ((S.y + 1 : Nat) : Int) from by dsimp only; omega]
    iterate 2 refine VX.meek rfl ?_
    refine VX.store rfl rfl rfl rfl rfl au_sY rfl ?_
    refine VX.nil ?_
    refine VC.ret ?_
    exact ⟨trivial, _, rfl, .inl ⟨rfl, by rw [e]; rfl⟩⟩
  · (try simp only [au_std] at hc0); have h1 : ¬ S.y + 1 < S.rows := (by omega); have e : S.lineEnd = ({ S with x := 0 } : Scr).scroll := (by unfold Scr.lineEnd; rw [if_neg h1])
    refine VC.skip ?_
    refine VC.regN tab_ok [] rfl ?_
    refine VX.meek rfl ?_
    refine VX.callT rfl rfl (CallT.frame (hsc) [0, 1, 2] rfl au_ci au_ci ?_)
    rintro _ _ (⟨rfl, rfl⟩ | ⟨rfl, rfl⟩)
    · refine frK au_co au_co ?_
      refine VX.nil ?_
      exact ⟨trivial, _, rfl, .inl ⟨rfl, by rw [e]; rfl⟩⟩
    · refine frK au_co au_co ?_
      refine VX.nil ?_
      exact ⟨trivial, _, rfl, .inr ⟨rfl, by rw [e]; rfl⟩⟩
theorem blank_t (S : Scr) (n f t : Nat) (ok : S.Ok) (hf : f ≤ 8192) (ht : t ≤ S.grid.length) (hn : n ≤ 999) : CallT Tryd.prog 111 [.ptr 0 0, I64 n, I64 f, I64 t] (scH S) (fun r H' => r = .tup [] ∧ H' = scH (S.blank n f t)) := by
  have hg2 := ok.g2
  have hc := ok.c1
  have hpg := ok.pg
  have hmul : ((S.y : Nat) : Int) * ((S.cols : Nat) : Int) = ((S.y * S.cols : Nat) : Int) := (Int.natCast_mul _ _).symm
  have hat : ((S.y * S.cols : Nat) : Int) + min (S.x : Int) ((S.cols : Int) - 1) = ((S.y * S.cols + min S.x (S.cols - 1) : Nat) : Int) := by omega
  refine CallT.intro tab_ok Tryd.func111 rfl (by kernel_rfl) (Nat.le_of_ble_eq_true rfl) ?_
  refine VC.drw tab_ok [] [_, _, _, _, _, _, _, _, _, _, _, _, _, _, _, _, _, _, _, _, _] rfl (by kernel_rfl) (by kernel_rfl) ?_
  iterate 3 refine VX.meek rfl ?_
  first | refine VX.meek rfl ?_ | refine VX.loadI rfl rfl au_l ?_ | refine VX.loadP rfl rfl rfl au_l ?_
  iterate 3 refine VX.meek rfl ?_
  first | refine VX.meek rfl ?_ | refine VX.loadI rfl rfl au_l ?_ | refine VX.loadP rfl rfl rfl au_l ?_
  refine VX.mul rfl rfl (by rw [hmul]; omega) ?_; rw [hmul]
  iterate 3 refine VX.meek rfl ?_
  first | refine VX.meek rfl ?_ | refine VX.loadI rfl rfl au_l ?_ | refine VX.loadP rfl rfl rfl au_l ?_
  iterate 3 refine VX.meek rfl ?_
  first | refine VX.meek rfl ?_ | refine VX.loadI rfl rfl au_l ?_ | refine VX.loadP rfl rfl rfl au_l ?_
  first | refine VX.sub rfl rfl (by omega) ?_ | refine VX.meek rfl ?_
  first | refine VX.minX rfl rfl ?_ | refine VX.meek rfl ?_
  refine VX.add rfl rfl (by omega) ?_; rw [hat]
  refine VX.meek rfl ?_
  refine VX.nil ?_
  refine VX.nil ?_
  refine VC.reg tab_ok [] rfl ?_
  refine VX.meek rfl ?_
  refine VX.nil ?_
  refine VC.block ?_
  refine VC.reg tab_ok [] rfl ?_
  iterate 2 refine VX.meek rfl ?_
  refine VX.nil ?_
  refine VC.cond rfl (fun hc0 => ?_) (fun hc0 => ?_)
  · (try simp only [au_std] at hc0); have h0 : n = 0 := (by omega); have e : S.blank n f t = S.clear (S.y * S.cols + min S.x (S.cols - 1)) t := (by unfold Scr.blank; rw [if_pos h0])
    refine VC.regN tab_ok [] rfl ?_
    iterate 3 refine VX.meek rfl ?_
    refine VX.callT rfl rfl (CallT.frame (clear_t S (S.y * S.cols + min S.x (S.cols - 1)) t ht hg2 (by omega)) [0, 1, 2] rfl au_ci au_ci ?_)
    rintro _ _ ⟨rfl, rfl⟩
    refine frK au_co au_co ?_
    refine VX.nil ?_
    exact ⟨trivial, _, rfl, rfl, by first | (rw [e]; rfl) | rw [e]⟩
  · (try simp only [au_std] at hc0); have h0 : ¬ n = 0 := (by omega)
    refine VC.reg tab_ok [] rfl ?_
    iterate 2 refine VX.meek rfl ?_
    refine VX.nil ?_
    refine VC.cond rfl (fun hc1 => ?_) (fun hc1 => ?_)
    · (try simp only [au_std] at hc1); have h1 : n = 1 := (by omega); have e : S.blank n f t = S.clear f (S.y * S.cols + min S.x (S.cols - 1) + 1) := (by unfold Scr.blank; rw [if_neg h0, if_pos h1])
      refine VC.regN tab_ok [] rfl ?_
      iterate 3 refine VX.meek rfl ?_
      refine VX.add rfl rfl (by omega) ?_; rw [show ((S.y * S.cols + min S.x (S.cols - 1) : Nat) : Int) + 1 = ((S.y * S.cols + min S.x (S.cols - 1) + 1 : Nat) : Int) from by omega]
      refine VX.callT rfl rfl (CallT.frame (clear_t S f (S.y * S.cols + min S.x (S.cols - 1) + 1) (by omega) hg2 (by omega)) [0, 1, 2] rfl au_ci au_ci ?_)
      rintro _ _ ⟨rfl, rfl⟩
      refine frK au_co au_co ?_
      refine VX.nil ?_
      exact ⟨trivial, _, rfl, rfl, by first | (rw [e]; rfl) | rw [e]⟩
    · (try simp only [au_std] at hc1); have h1 : ¬ n = 1 := (by omega)
      refine VC.reg tab_ok [] rfl ?_
      iterate 2 refine VX.meek rfl ?_
      refine VX.nil ?_
      refine VC.cond rfl (fun hc2 => ?_) (fun hc2 => ?_)
      · (try simp only [au_std] at hc2); have h2 : n = 2 := (by omega); have e : S.blank n f t = S.clear f t := (by unfold Scr.blank; rw [if_neg h0, if_neg h1, if_pos h2])
        refine VC.regN tab_ok [] rfl ?_
        iterate 3 refine VX.meek rfl ?_
        refine VX.callT rfl rfl (CallT.frame (clear_t S f t ht hg2 (by omega)) [0, 1, 2] rfl au_ci au_ci ?_)
        rintro _ _ ⟨rfl, rfl⟩
        refine frK au_co au_co ?_
        refine VX.nil ?_
        exact ⟨trivial, _, rfl, rfl, by first | (rw [e]; rfl) | rw [e]⟩
      · (try simp only [au_std] at hc2); have h2 : ¬ n = 2 := (by omega); have e : S.blank n f t = S := (by unfold Scr.blank; rw [if_neg h0, if_neg h1, if_neg h2])
        refine VC.skip ?_
        exact ⟨trivial, _, rfl, rfl, by first | (rw [e]; rfl) | rw [e]⟩
theorem cmd1_t (S : Scr) (n m : Nat) (ok : S.Ok) (hn : n ≤ 999) (hm : m ≤ 999) : CallT Tryd.prog 105 [.ptr 0 0, I64 n, I64 m] (scH S) (fun r H' => r = .tup [] ∧ H' = scH (S.cmd 65 n m)) := by
  have hy := ok.y
  have hr := ok.r2
  have e : max ((S.y : Int) - max (n : Int) 1) 0 = ((S.y - max n 1 : Nat) : Int) := by omega
  refine CallT.intro tab_ok Tryd.func105 rfl (by kernel_rfl) (Nat.le_of_ble_eq_true rfl) ?_
  refine VC.regN tab_ok [] rfl ?_
  iterate 4 refine VX.meek rfl ?_
  first | refine VX.meek rfl ?_ | refine VX.loadI rfl rfl au_l ?_ | refine VX.loadP rfl rfl rfl au_l ?_
  refine VX.meek rfl ?_
  first | refine VX.maxX rfl rfl ?_ | refine VX.meek rfl ?_
  first | refine VX.sub rfl rfl (by omega) ?_ | refine VX.meek rfl ?_
  refine VX.maxX rfl rfl ?_; rw [e]
  iterate 2 refine VX.meek rfl ?_
  refine VX.store rfl rfl rfl rfl rfl au_sY rfl ?_
  refine VX.nil ?_
  exact ⟨trivial, _, rfl, rfl, rfl⟩
theorem cmd2_t (S : Scr) (n m : Nat) (ok : S.Ok) (hn : n ≤ 999) (hm : m ≤ 999) : CallT Tryd.prog 106 [.ptr 0 0, I64 n, I64 m] (scH S) (fun r H' => r = .tup [] ∧ H' = scH (S.cmd 66 n m)) := by
  have hy := ok.y
  have hr := ok.r2
  have e : min ((S.y : Int) + max (n : Int) 1) ((S.rows : Int) - 1) = ((min (S.y + max n 1) (S.rows - 1) : Nat) : Int) := by omega
  refine CallT.intro tab_ok Tryd.func106 rfl (by kernel_rfl) (Nat.le_of_ble_eq_true rfl) ?_
  refine VC.drwN tab_ok [] [_, _, _, _, _, _, _, _, _, _, _, _, _, _, _, _] rfl (by kernel_rfl) (by kernel_rfl) ?_
  iterate 4 refine VX.meek rfl ?_
  first | refine VX.meek rfl ?_ | refine VX.loadI rfl rfl au_l ?_ | refine VX.loadP rfl rfl rfl au_l ?_
  refine VX.meek rfl ?_
  first | refine VX.maxX rfl rfl ?_ | refine VX.meek rfl ?_
  first | refine VX.add rfl rfl (by omega) ?_ | refine VX.meek rfl ?_
  iterate 3 refine VX.meek rfl ?_
  first | refine VX.meek rfl ?_ | refine VX.loadI rfl rfl au_l ?_ | refine VX.loadP rfl rfl rfl au_l ?_
  first | refine VX.sub rfl rfl (by omega) ?_ | refine VX.meek rfl ?_
  first | refine VX.minX rfl rfl ?_ | refine VX.meek rfl ?_
  iterate 2 refine VX.meek rfl ?_
  refine VX.nil ?_
  refine VX.store rfl rfl rfl rfl rfl au_sY rfl ?_
  refine VX.nil ?_
  skip
  exact ⟨trivial, _, rfl, rfl, (congrArg (fun z => [Blk.c (putL (scrC S (.slc 1 0 S.grid.length 1 none) (.slc 2 0 S.kept.length 1 none)) 4 [I64 z]), .c (encL cY S.grid), .c (encL cStr S.kept)]) e).trans rfl⟩
theorem cmd3_t (S : Scr) (n m : Nat) (ok : S.Ok) (hn : n ≤ 999) (hm : m ≤ 999) : CallT Tryd.prog 107 [.ptr 0 0, I64 n, I64 m] (scH S) (fun r H' => r = .tup [] ∧ H' = scH (S.cmd 67 n m)) := by
  have hx := ok.x
  have hr := ok.c2
  have hc := ok.c1
  have e : min ((S.x : Int) + max (n : Int) 1) ((S.cols : Int) - 1) = ((min (S.x + max n 1) (S.cols - 1) : Nat) : Int) := by omega
  refine CallT.intro tab_ok Tryd.func107 rfl (by kernel_rfl) (Nat.le_of_ble_eq_true rfl) ?_
  refine VC.drwN tab_ok [] [_, _, _, _, _, _, _, _, _, _, _, _, _, _, _, _] rfl (by kernel_rfl) (by kernel_rfl) ?_
  iterate 4 refine VX.meek rfl ?_
  first | refine VX.meek rfl ?_ | refine VX.loadI rfl rfl au_l ?_ | refine VX.loadP rfl rfl rfl au_l ?_
  refine VX.meek rfl ?_
  first | refine VX.maxX rfl rfl ?_ | refine VX.meek rfl ?_
  first | refine VX.add rfl rfl (by omega) ?_ | refine VX.meek rfl ?_
  iterate 3 refine VX.meek rfl ?_
  first | refine VX.meek rfl ?_ | refine VX.loadI rfl rfl au_l ?_ | refine VX.loadP rfl rfl rfl au_l ?_
  first | refine VX.sub rfl rfl (by omega) ?_ | refine VX.meek rfl ?_
  first | refine VX.minX rfl rfl ?_ | refine VX.meek rfl ?_
  iterate 2 refine VX.meek rfl ?_
  refine VX.nil ?_
  refine VX.store rfl rfl rfl rfl rfl au_sY rfl ?_
  refine VX.nil ?_
  exact ⟨trivial, _, rfl, rfl, (congrArg (fun z => [Blk.c (putL (scrC S (.slc 1 0 S.grid.length 1 none) (.slc 2 0 S.kept.length 1 none)) 3 [I64 z]), .c (encL cY S.grid), .c (encL cStr S.kept)]) e).trans rfl⟩
theorem cmd4_t (S : Scr) (n m : Nat) (ok : S.Ok) (hn : n ≤ 999) (hm : m ≤ 999) : CallT Tryd.prog 108 [.ptr 0 0, I64 n, I64 m] (scH S) (fun r H' => r = .tup [] ∧ H' = scH (S.cmd 68 n m)) := by
  have hx := ok.x
  have hr := ok.c2
  have e : max ((S.x : Int) - max (n : Int) 1) 0 = ((S.x - max n 1 : Nat) : Int) := by omega
  refine CallT.intro tab_ok Tryd.func108 rfl (by kernel_rfl) (Nat.le_of_ble_eq_true rfl) ?_
  refine VC.regN tab_ok [] rfl ?_
  iterate 4 refine VX.meek rfl ?_
  first | refine VX.meek rfl ?_ | refine VX.loadI rfl rfl au_l ?_ | refine VX.loadP rfl rfl rfl au_l ?_
  refine VX.meek rfl ?_
  first | refine VX.maxX rfl rfl ?_ | refine VX.meek rfl ?_
  first | refine VX.sub rfl rfl (by omega) ?_ | refine VX.meek rfl ?_
  first | refine VX.maxX rfl rfl ?_ | refine VX.meek rfl ?_
  iterate 2 refine VX.meek rfl ?_
  refine VX.store rfl rfl rfl rfl rfl au_sY rfl ?_
  refine VX.nil ?_
  exact ⟨trivial, _, rfl, rfl, (congrArg (fun z => [Blk.c (putL (scrC S (.slc 1 0 S.grid.length 1 none) (.slc 2 0 S.kept.length 1 none)) 3 [I64 z]), .c (encL cY S.grid), .c (encL cStr S.kept)]) e).trans rfl⟩
theorem cmd5_t (S : Scr) (n m : Nat) (ok : S.Ok) (hn : n ≤ 999) (hm : m ≤ 999) : CallT Tryd.prog 109 [.ptr 0 0, I64 n, I64 m] (scH S) (fun r H' => r = .tup [] ∧ H' = scH (S.cmd 72 n m)) := by
  have h1 := ok.r1
  have h2 := ok.c1
  have h3 := ok.r2
  have h4 := ok.c2
  have e1 : min (max (n : Int) 1) (S.rows : Int) - 1 = ((min (max n 1) S.rows - 1 : Nat) : Int) := by omega
  have e2 : min (max (m : Int) 1) (S.cols : Int) - 1 = ((min (max m 1) S.cols - 1 : Nat) : Int) := by omega
  refine CallT.intro tab_ok Tryd.func109 rfl (by kernel_rfl) (Nat.le_of_ble_eq_true rfl) ?_
  refine VC.reg tab_ok [] rfl ?_
  iterate 2 refine VX.meek rfl ?_
  first | refine VX.maxX rfl rfl ?_ | refine VX.meek rfl ?_
  iterate 3 refine VX.meek rfl ?_
  first | refine VX.meek rfl ?_ | refine VX.loadI rfl rfl au_l ?_ | refine VX.loadP rfl rfl rfl au_l ?_
  first | refine VX.minX rfl rfl ?_ | refine VX.meek rfl ?_
  refine VX.sub rfl rfl (by omega) ?_; rw [e1]
  iterate 2 refine VX.meek rfl ?_
  refine VX.store rfl rfl rfl rfl rfl au_sY rfl ?_
  refine VX.nil ?_
  refine VC.view ([(0, .ptr 0 0)]) ((scH { S with y := min (max n 1) S.rows - 1 })) [2] rfl (by refine ⟨[some 0, some 1, some 2], rfl, by first | trivial | decide, rfl, ?_, ?_⟩ <;> (repeat' first | exact trivial | exact CvB_n | exact CvB_d | exact CvB_o rfl | refine CvE_app ?_ ?_ | refine CvE_cons rfl ?_ ?_ | refine CvH_cons ?_ ?_ | refine CvB_c rfl ?_ | fail) <;> first | exact au_v | (first | exact cv_scr (S := { S with y := min (max n 1) S.rows - 1 }) (Cv.slc rfl (.inl rfl)) (Cv.slc rfl (.inl rfl)) | exact CvL.pure (encL_pure cY _) | exact CvL.pure (encL_pure cStr _))) ?_
  refine VC.regN tab_ok [] rfl ?_
  iterate 2 refine VX.meek rfl ?_
  first | refine VX.maxX rfl rfl ?_ | refine VX.meek rfl ?_
  iterate 3 refine VX.meek rfl ?_
  first | refine VX.meek rfl ?_ | refine VX.loadI rfl rfl au_l ?_ | refine VX.loadP rfl rfl rfl au_l ?_
  first | refine VX.minX rfl rfl ?_ | refine VX.meek rfl ?_
  refine VX.sub rfl rfl (by omega) ?_; rw [e2]
  iterate 2 refine VX.meek rfl ?_
  refine VX.store rfl rfl rfl rfl rfl au_sY rfl ?_
  refine VX.nil ?_
  exact ⟨trivial, _, rfl, rfl, rfl⟩
theorem cmd6_t (S : Scr) (n m : Nat) (ok : S.Ok) (hn : n ≤ 999) (hm : m ≤ 999) : CallT Tryd.prog 110 [.ptr 0 0, I64 n, I64 m] (scH S) (fun r H' => r = .tup [] ∧ H' = scH (S.cmd 74 n m)) := by
  refine CallT.intro tab_ok Tryd.func110 rfl (by kernel_rfl) (Nat.le_of_ble_eq_true rfl) ?_
  refine VC.regN tab_ok [] rfl ?_
  iterate 5 refine VX.meek rfl ?_
  first | refine VX.meek rfl ?_ | refine VX.loadI rfl rfl au_l ?_ | refine VX.loadP rfl rfl rfl au_l ?_
  refine VX.meek rfl ?_
  refine VX.callT rfl rfl (CallT.frame (blank_t S n 0 S.grid.length ok (by omega) (Nat.le_refl _) hn) [0, 1, 2] rfl au_ci au_ci ?_)
  rintro _ _ ⟨rfl, rfl⟩
  refine frK au_co au_co ?_
  refine VX.nil ?_
  exact ⟨trivial, _, rfl, rfl, rfl⟩
theorem cmd7_t (S : Scr) (n m : Nat) (ok : S.Ok) (hn : n ≤ 999) (hm : m ≤ 999) : CallT Tryd.prog 112 [.ptr 0 0, I64 n, I64 m] (scH S) (fun r H' => r = .tup [] ∧ H' = scH (S.cmd 75 n m)) := by
  have hg2 := ok.g2
  have hpg := ok.pg
  have hy := ok.y
  have hr := ok.r2
  have hs : (S.y + 1) * S.cols = S.y * S.cols + S.cols := Nat.succ_mul _ _
  have hmul : ((S.y : Nat) : Int) * ((S.cols : Nat) : Int) = ((S.y * S.cols : Nat) : Int) := (Int.natCast_mul _ _).symm
  have hmul2 : (((S.y : Nat) : Int) + 1) * ((S.cols : Nat) : Int) = (((S.y + 1) * S.cols : Nat) : Int) := (Int.natCast_mul (S.y + 1) S.cols).symm
  refine CallT.intro tab_ok Tryd.func112 rfl (by kernel_rfl) (Nat.le_of_ble_eq_true rfl) ?_
  refine VC.drwN tab_ok [] [_, _, _, _, _, _, _, _, _, _, _, _, _, _, _, _, _, _, _, _, _] rfl (by kernel_rfl) (by kernel_rfl) ?_
  iterate 5 refine VX.meek rfl ?_
  first | refine VX.meek rfl ?_ | refine VX.loadI rfl rfl au_l ?_ | refine VX.loadP rfl rfl rfl au_l ?_
  iterate 3 refine VX.meek rfl ?_
  first | refine VX.meek rfl ?_ | refine VX.loadI rfl rfl au_l ?_ | refine VX.loadP rfl rfl rfl au_l ?_
  refine VX.mul rfl rfl (by rw [hmul]; omega) ?_; rw [hmul]
  iterate 3 refine VX.meek rfl ?_
  first | refine VX.meek rfl ?_ | refine VX.loadI rfl rfl au_l ?_ | refine VX.loadP rfl rfl rfl au_l ?_
  first | refine VX.add rfl rfl (by omega) ?_ | refine VX.meek rfl ?_
  iterate 3 refine VX.meek rfl ?_
  first | refine VX.meek rfl ?_ | refine VX.loadI rfl rfl au_l ?_ | refine VX.loadP rfl rfl rfl au_l ?_
  refine VX.mul rfl rfl (by rw [hmul2]; omega) ?_; rw [hmul2]
  refine VX.nil ?_
  refine VX.callT rfl rfl (CallT.frame (blank_t S n (S.y * S.cols) ((S.y + 1) * S.cols) ok (by omega) (by omega) hn) [0, 1, 2] rfl au_ci au_ci ?_)
  rintro _ _ ⟨rfl, rfl⟩
  refine frK au_co au_co ?_
  refine VX.nil ?_
  exact ⟨trivial, _, rfl, rfl, rfl⟩
abbrev cmdK : List Value := [.int .u8 65, .int .u8 66, .int .u8 67, .int .u8 68, .int .u8 72, .int .u8 74, .int .u8 75]
abbrev cmdT : List T := [.clo 105 [] [], .clo 106 [] [], .clo 107 [] [], .clo 108 [] [], .clo 109 [] [], .clo 110 [] [], .clo 112 [] []]
theorem commands_p : CallP Tryd.prog 71 [] (.mp cmdK cmdT) := by
  refine CallP.intro2 au_pu au_pu ?_
  refine CallT.intro tab_ok Tryd.func71 rfl (by kernel_rfl) (Nat.le_of_ble_eq_true rfl) ?_
  refine VC.reg tab_ok [] rfl ?_
  refine VX.meek rfl ?_
  refine VX.nil ?_
  refine VC.reg tab_ok [] rfl ?_
  refine VX.makeMap ?_
  refine VX.insNew tab_ok rfl rfl rfl rfl rfl rfl rfl rfl (by first | rfl | assumption | decide) (by first | assumption | (simp; done)) ?_
  refine VX.insNew tab_ok rfl rfl rfl rfl rfl rfl rfl rfl (by first | rfl | assumption | decide) (by first | assumption | (simp; done)) ?_
  refine VX.insNew tab_ok rfl rfl rfl rfl rfl rfl rfl rfl (by first | rfl | assumption | decide) (by first | assumption | (simp; done)) ?_
  refine VX.insNew tab_ok rfl rfl rfl rfl rfl rfl rfl rfl (by first | rfl | assumption | decide) (by first | assumption | (simp; done)) ?_
  refine VX.insNew tab_ok rfl rfl rfl rfl rfl rfl rfl rfl (by first | rfl | assumption | decide) (by first | assumption | (simp; done)) ?_
  refine VX.insNew tab_ok rfl rfl rfl rfl rfl rfl rfl rfl (by first | rfl | assumption | decide) (by first | assumption | (simp; done)) ?_
  refine VX.insNew tab_ok rfl rfl rfl rfl rfl rfl rfl rfl (by first | rfl | assumption | decide) (by first | assumption | (simp; done)) ?_
  iterate 2 refine VX.meek rfl ?_
  refine VX.nil ?_
  refine VC.ret ?_
  exact ⟨trivial, _, rfl, Cv.fom ⟨rfl, by simp⟩ (CvL.pure rfl)⟩
end
section
open Go.RowKit
set_option maxRecDepth 10000

/- a byte of a command -/
theorem told_t0 (S : Scr) (v : Nat) (ok : S.Ok) (h1 : 48 ≤ v) (h2 : v ≤ 57) (h : S.num = 0) : CallT Tryd.prog 43 [.ptr 0 0, U8 v] (scH S) (fun r H' => r = .tup [] ∧ H' = scH (S.told v)) := by
  have ha := ok.a
  have e : S.told v = { S with n0 := min (S.n0 * 10 + (v - 48)) 999 } := by unfold Scr.told; rw [if_pos ⟨h1, h2⟩, if_pos h]
  have e2 : min ((S.n0 : Int) * 10 + (v - 48)) 999 = ((min (S.n0 * 10 + (v - 48)) 999 : Nat) : Int) := by omega
  rw [e]
  refine CallT.intro tab_ok Tryd.func43 rfl (by kernel_rfl) (Nat.le_of_ble_eq_true rfl) ?_
  refine VC.block ?_
  refine VC.reg tab_ok [] rfl ?_
  iterate 3 refine VX.meek rfl ?_
  refine' VX.merge (d := 36) [_, _, _] rfl ?_ rfl ?_
  rotate_left
  · refine VX.guard rfl rfl (fun hb4_2 => ?_) (fun hb4_2 => ?_)
    · have ghb4_2 := hb4_2
      try simp only [au_std, Bool.not_true, Bool.not_false] at ghb4_2
      refine VX.meek rfl ?_
      refine VX.guardT rfl rfl hb4_2 ?_
      refine VX.meek rfl ?_
      refine VX.pickA rfl (fun _ => rfl) ?_
      exact VX.nil ⟨rfl, rfl⟩
    · refine VX.guardF rfl rfl hb4_2 ?_
      exact VX.pickA rfl (fun h => absurd (h.symm.trans hb4_2) (by decide)) (VX.nil ⟨rfl, rfl⟩)
  refine VX.meek rfl ?_
  refine VX.nil ?_
  refine VC.cond rfl (fun hc0 => ?_) (fun hc0 => ?_)
  · (try simp only [au_std] at hc0)
    refine VC.reg tab_ok [] rfl ?_
    iterate 3 refine VX.meek rfl ?_
    first | refine VX.meek rfl ?_ | refine VX.loadI rfl rfl au_l ?_ | refine VX.loadP rfl rfl rfl au_l ?_
    refine VX.meek rfl ?_
    refine VX.nil ?_
    refine VC.cond rfl (fun hc1 => ?_) (fun hc1 => ?_)
    · (try simp only [au_std] at hc1)
      refine VC.drw tab_ok [] [_, _, _, _, _, _, _, _, _] rfl (by kernel_rfl) (by kernel_rfl) ?_
      iterate 4 refine VX.meek rfl ?_
      refine VX.meek (t := I64 0) (by show some (I64 (S.num : Int), (none : Option (Nat × List T))) = _; rw [h]; rfl) ?_
      iterate 2 refine VX.meek rfl ?_
      first | refine VX.idxI rfl rfl rfl rfl rfl rfl (by omega) ?_ | refine VX.idxO0 rfl rfl rfl rfl rfl rfl rfl (by omega) ?_ | refine VX.idxO0 rfl rfl rfl rfl rfl rfl au_z (by omega) ?_ | refine VX.idxO rfl rfl rfl rfl rfl rfl rfl (by omega) ?_ | refine VX.idxI rfl rfl rfl rfl rfl au_z (by omega) ?_ | refine VX.idxO rfl rfl rfl rfl rfl rfl au_z (by omega) ?_ | refine VX.meek rfl ?_
      refine VX.meek rfl ?_
      refine VX.nil ?_
      refine VX.nil ?_
      refine VC.regN tab_ok [] rfl ?_
      iterate 3 refine VX.meek rfl ?_
      first | refine VX.meek rfl ?_ | refine VX.loadI rfl rfl au_l ?_ | refine VX.loadP rfl rfl rfl au_l ?_
      first | refine VX.mul rfl rfl (by omega) ?_ | refine VX.meek rfl ?_
      refine VX.meek rfl ?_
      refine VX.meek (t := U8 ((v : Int) - 48)) (by show some (T.v (.int .u8 (IntKind.u8.wrap ((v : Int) - 48))), (none : Option (Nat × List T))) = _; rw [show IntKind.u8.wrap ((v : Int) - 48) = (v : Int) - 48 from wrapU (by omega)]) ?_
      refine VX.meek (t := I64 ((v : Int) - 48)) (by show some (T.v (.int .i64 (IntKind.i64.wrap ((v : Int) - 48))), (none : Option (Nat × List T))) = _; rw [wrap_in (by omega)]) ?_
      first | refine VX.add rfl rfl (by omega) ?_ | refine VX.meek rfl ?_
      refine VX.minX rfl rfl ?_; rw [e2]
      refine VX.meek rfl ?_
      refine VX.store rfl rfl rfl rfl rfl au_sY rfl ?_
      refine VX.nil ?_
      exact ⟨trivial, _, rfl, rfl, rfl⟩
    · exact absurd hc1 (by simp; omega)
  · exact absurd hc0 (by simp; omega)
theorem told_t1 (S : Scr) (v : Nat) (ok : S.Ok) (h1 : 48 ≤ v) (h2 : v ≤ 57) (h : S.num = 1) : CallT Tryd.prog 43 [.ptr 0 0, U8 v] (scH S) (fun r H' => r = .tup [] ∧ H' = scH (S.told v)) := by
  have ha := ok.b
  have e : S.told v = { S with n1 := min (S.n1 * 10 + (v - 48)) 999 } := by unfold Scr.told; rw [if_pos ⟨h1, h2⟩, if_neg (by omega), if_pos h]
  have e2 : min ((S.n1 : Int) * 10 + (v - 48)) 999 = ((min (S.n1 * 10 + (v - 48)) 999 : Nat) : Int) := by omega
  rw [e]
  refine CallT.intro tab_ok Tryd.func43 rfl (by kernel_rfl) (Nat.le_of_ble_eq_true rfl) ?_
  refine VC.block ?_
  refine VC.reg tab_ok [] rfl ?_
  iterate 3 refine VX.meek rfl ?_
  refine' VX.merge (d := 36) [_, _, _] rfl ?_ rfl ?_
  rotate_left
  · refine VX.guard rfl rfl (fun hb4_2 => ?_) (fun hb4_2 => ?_)
    · have ghb4_2 := hb4_2
      try simp only [au_std, Bool.not_true, Bool.not_false] at ghb4_2
      refine VX.meek rfl ?_
      refine VX.guardT rfl rfl hb4_2 ?_
      refine VX.meek rfl ?_
      refine VX.pickA rfl (fun _ => rfl) ?_
      exact VX.nil ⟨rfl, rfl⟩
    · refine VX.guardF rfl rfl hb4_2 ?_
      exact VX.pickA rfl (fun h => absurd (h.symm.trans hb4_2) (by decide)) (VX.nil ⟨rfl, rfl⟩)
  refine VX.meek rfl ?_
  refine VX.nil ?_
  refine VC.cond rfl (fun hc0 => ?_) (fun hc0 => ?_)
  · (try simp only [au_std] at hc0)
    refine VC.reg tab_ok [] rfl ?_
    iterate 3 refine VX.meek rfl ?_
    first | refine VX.meek rfl ?_ | refine VX.loadI rfl rfl au_l ?_ | refine VX.loadP rfl rfl rfl au_l ?_
    refine VX.meek rfl ?_
    refine VX.nil ?_
    refine VC.cond rfl (fun hc1 => ?_) (fun hc1 => ?_)
    · (try simp only [au_std] at hc1)
      refine VC.drw tab_ok [] [_, _, _, _, _, _, _, _, _] rfl (by kernel_rfl) (by kernel_rfl) ?_
      iterate 4 refine VX.meek rfl ?_
      refine VX.meek (t := I64 1) (by show some (I64 (S.num : Int), (none : Option (Nat × List T))) = _; rw [h]; rfl) ?_
      iterate 2 refine VX.meek rfl ?_
      first | refine VX.idxI rfl rfl rfl rfl rfl rfl (by omega) ?_ | refine VX.idxO0 rfl rfl rfl rfl rfl rfl rfl (by omega) ?_ | refine VX.idxO0 rfl rfl rfl rfl rfl rfl au_z (by omega) ?_ | refine VX.idxO rfl rfl rfl rfl rfl rfl rfl (by omega) ?_ | refine VX.idxI rfl rfl rfl rfl rfl au_z (by omega) ?_ | refine VX.idxO rfl rfl rfl rfl rfl rfl au_z (by omega) ?_ | refine VX.meek rfl ?_
      refine VX.meek rfl ?_
      refine VX.nil ?_
      refine VX.nil ?_
      refine VC.regN tab_ok [] rfl ?_
      iterate 3 refine VX.meek rfl ?_
      first | refine VX.meek rfl ?_ | refine VX.loadI rfl rfl au_l ?_ | refine VX.loadP rfl rfl rfl au_l ?_
      first | refine VX.mul rfl rfl (by omega) ?_ | refine VX.meek rfl ?_
      refine VX.meek rfl ?_
      refine VX.meek (t := U8 ((v : Int) - 48)) (by show some (T.v (.int .u8 (IntKind.u8.wrap ((v : Int) - 48))), (none : Option (Nat × List T))) = _; rw [show IntKind.u8.wrap ((v : Int) - 48) = (v : Int) - 48 from wrapU (by omega)]) ?_
      refine VX.meek (t := I64 ((v : Int) - 48)) (by show some (T.v (.int .i64 (IntKind.i64.wrap ((v : Int) - 48))), (none : Option (Nat × List T))) = _; rw [wrap_in (by omega)]) ?_
      first | refine VX.add rfl rfl (by omega) ?_ | refine VX.meek rfl ?_
      refine VX.minX rfl rfl ?_; rw [e2]
      refine VX.meek rfl ?_
      refine VX.store rfl rfl rfl rfl rfl au_sY rfl ?_
      refine VX.nil ?_
      exact ⟨trivial, _, rfl, rfl, rfl⟩
    · exact absurd hc1 (by simp; omega)
  · exact absurd hc0 (by simp; omega)
theorem told_t2 (S : Scr) (v : Nat) (ok : S.Ok) (h1 : 48 ≤ v) (h2 : v ≤ 57) (h : ¬ S.num < 2) : CallT Tryd.prog 43 [.ptr 0 0, U8 v] (scH S) (fun r H' => r = .tup [] ∧ H' = scH (S.told v)) := by
  have e : S.told v = S := by unfold Scr.told; rw [if_pos ⟨h1, h2⟩, if_neg (by omega), if_neg (by omega)]
  rw [e]
  refine CallT.intro tab_ok Tryd.func43 rfl (by kernel_rfl) (Nat.le_of_ble_eq_true rfl) ?_
  refine VC.block ?_
  refine VC.reg tab_ok [] rfl ?_
  iterate 3 refine VX.meek rfl ?_
  refine' VX.merge (d := 36) [_, _, _] rfl ?_ rfl ?_
  rotate_left
  · refine VX.guard rfl rfl (fun hb4_2 => ?_) (fun hb4_2 => ?_)
    · have ghb4_2 := hb4_2
      try simp only [au_std, Bool.not_true, Bool.not_false] at ghb4_2
      refine VX.meek rfl ?_
      refine VX.guardT rfl rfl hb4_2 ?_
      refine VX.meek rfl ?_
      refine VX.pickA rfl (fun _ => rfl) ?_
      exact VX.nil ⟨rfl, rfl⟩
    · refine VX.guardF rfl rfl hb4_2 ?_
      exact VX.pickA rfl (fun h => absurd (h.symm.trans hb4_2) (by decide)) (VX.nil ⟨rfl, rfl⟩)
  refine VX.meek rfl ?_
  refine VX.nil ?_
  refine VC.cond rfl (fun hc0 => ?_) (fun hc0 => ?_)
  · (try simp only [au_std] at hc0)
    refine VC.reg tab_ok [] rfl ?_
    iterate 3 refine VX.meek rfl ?_
    first | refine VX.meek rfl ?_ | refine VX.loadI rfl rfl au_l ?_ | refine VX.loadP rfl rfl rfl au_l ?_
    refine VX.meek rfl ?_
    refine VX.nil ?_
    refine VC.cond rfl (fun hc1 => ?_) (fun hc1 => ?_)
    · exact absurd hc1 (by simp; omega)
    · (try simp only [au_std] at hc1)
      refine VC.skip ?_
      exact ⟨trivial, _, rfl, rfl, rfl⟩
  · exact absurd hc0 (by simp; omega)
theorem told_t3 (S : Scr) (ok : S.Ok) : CallT Tryd.prog 43 [.ptr 0 0, U8 (59 : Nat)] (scH S) (fun r H' => r = .tup [] ∧ H' = scH (S.told 59)) := by
  have hn := ok.n
  have e : S.told 59 = { S with num := min (S.num + 1) 2 } := by unfold Scr.told; rw [if_neg (by omega), if_pos rfl]
  have e2 : min ((S.num : Int) + 1) 2 = ((min (S.num + 1) 2 : Nat) : Int) := by omega
  rw [e]
  refine CallT.intro tab_ok Tryd.func43 rfl (by kernel_rfl) (Nat.le_of_ble_eq_true rfl) ?_
  refine VC.block ?_
  refine VC.reg tab_ok [] rfl ?_
  iterate 3 refine VX.meek rfl ?_
  refine' VX.merge (d := 36) [_, _, _] rfl ?_ rfl ?_
  rotate_left
  · refine VX.guard rfl rfl (fun hb4_2 => ?_) (fun hb4_2 => ?_)
    · have ghb4_2 := hb4_2
      try simp only [au_std, Bool.not_true, Bool.not_false] at ghb4_2
      refine VX.meek rfl ?_
      refine VX.guardT rfl rfl hb4_2 ?_
      refine VX.meek rfl ?_
      refine VX.pickA rfl (fun _ => rfl) ?_
      exact VX.nil ⟨rfl, rfl⟩
    · refine VX.guardF rfl rfl hb4_2 ?_
      exact VX.pickA rfl (fun h => absurd (h.symm.trans hb4_2) (by decide)) (VX.nil ⟨rfl, rfl⟩)
  refine VX.meek rfl ?_
  refine VX.nil ?_
  refine VC.cond rfl (fun hc0 => ?_) (fun hc0 => ?_)
  · exact absurd hc0 (by decide)
  · (try simp only [au_std] at hc0)
    refine VC.reg tab_ok [] rfl ?_
    iterate 3 refine VX.meek rfl ?_
    refine VX.nil ?_
    refine VC.cond rfl (fun hc2 => ?_) (fun hc2 => ?_)
    · (try simp only [au_std] at hc2)
      refine VC.regN tab_ok [] rfl ?_
      iterate 4 refine VX.meek rfl ?_
      first | refine VX.meek rfl ?_ | refine VX.loadI rfl rfl au_l ?_ | refine VX.loadP rfl rfl rfl au_l ?_
      first | refine VX.add rfl rfl (by omega) ?_ | refine VX.meek rfl ?_
      refine VX.minX rfl rfl ?_; rw [e2]
      iterate 2 refine VX.meek rfl ?_
      refine VX.store rfl rfl rfl rfl rfl au_sY rfl ?_
      refine VX.nil ?_
      exact ⟨trivial, _, rfl, rfl, rfl⟩
    · exact absurd hc2 (by decide)
theorem told_t4 (S : Scr) (v : Nat) (ok : S.Ok) (h1 : ¬ (48 ≤ v ∧ v ≤ 57)) (h2 : v ≠ 59) (f : FuncId) (hl : mLookup tab 152 (.mp cmdK cmdT) (U8 v) true = some (.tup [.clo f [] [], BL true]))
    (hc : CallT Tryd.prog f ([] ++ [.ptr 0 0, I64 S.n0, I64 S.n1] ++ []) (scH { S with st := 0 }) (fun r H' => r = .tup [] ∧ H' = scH (({ S with st := 0 } : Scr).cmd v S.n0 S.n1))) : CallT Tryd.prog 43 [.ptr 0 0, U8 v] (scH S) (fun r H' => r = .tup [] ∧ H' = scH (S.told v)) := by
  have e : S.told v = ({ S with st := 0 } : Scr).cmd v S.n0 S.n1 := by unfold Scr.told; rw [if_neg h1, if_neg h2]
  rw [e]
  refine CallT.intro tab_ok Tryd.func43 rfl (by kernel_rfl) (Nat.le_of_ble_eq_true rfl) ?_
  refine VC.block ?_
  refine VC.reg tab_ok [] rfl ?_
  iterate 3 refine VX.meek rfl ?_
  refine' VX.merge (d := 36) [_, _, _] rfl ?_ rfl ?_
  rotate_left
  · refine VX.guard rfl rfl (fun hb4_2 => ?_) (fun hb4_2 => ?_)
    · have ghb4_2 := hb4_2
      try simp only [au_std, Bool.not_true, Bool.not_false] at ghb4_2
      refine VX.meek rfl ?_
      refine VX.guardT rfl rfl hb4_2 ?_
      refine VX.meek rfl ?_
      refine VX.pickA rfl (fun _ => rfl) ?_
      exact VX.nil ⟨rfl, rfl⟩
    · refine VX.guardF rfl rfl hb4_2 ?_
      exact VX.pickA rfl (fun h => absurd (h.symm.trans hb4_2) (by decide)) (VX.nil ⟨rfl, rfl⟩)
  refine VX.meek rfl ?_
  refine VX.nil ?_
  refine VC.cond rfl (fun hc0 => ?_) (fun hc0 => ?_)
  · exact absurd hc0 (by simp; omega)
  · (try simp only [au_std] at hc0)
    refine VC.reg tab_ok [] rfl ?_
    iterate 3 refine VX.meek rfl ?_
    refine VX.nil ?_
    refine VC.cond rfl (fun hc2 => ?_) (fun hc2 => ?_)
    · exact absurd hc2 (by simp; omega)
    · (try simp only [au_std] at hc2)
      refine VC.reg tab_ok [] rfl ?_
      iterate 3 refine VX.meek rfl ?_
      refine VX.store rfl rfl rfl rfl rfl au_sY rfl ?_
      refine VX.nil ?_
      refine VC.view ([(0, .ptr 0 0)]) ((scH { S with st := 0 })) [1] rfl (by refine ⟨[some 0, some 1, some 2], rfl, by first | trivial | decide, rfl, ?_, ?_⟩ <;> (repeat' first | exact trivial | exact CvB_n | exact CvB_d | exact CvB_o rfl | refine CvE_app ?_ ?_ | refine CvE_cons rfl ?_ ?_ | refine CvH_cons ?_ ?_ | refine CvB_c rfl ?_ | fail) <;> first | exact au_v | (first | exact cv_scr (S := { S with st := 0 }) (Cv.slc rfl (.inl rfl)) (Cv.slc rfl (.inl rfl)) | exact CvL.pure (encL_pure cY _) | exact CvL.pure (encL_pure cStr _))) ?_
      refine VC.reg tab_ok [] rfl ?_
      refine VX.callP0 rfl rfl rfl (commands_p) ?_
      refine VX.meek rfl ?_
      refine VX.meek (t := .tup [.clo f [] [], BL true]) (by show (match mLookup tab _ (.mp cmdK cmdT) (U8 v) true with | some r => some (r, (none : Option (Nat × List T))) | none => none) = _; rw [hl]) ?_
      iterate 5 refine VX.meek rfl ?_
      refine VX.nil ?_
      refine VC.reg tab_ok [] rfl ?_
      refine VX.meek rfl ?_
      refine VX.nil ?_
      refine VC.condT rfl ?_
      refine VC.drwN tab_ok [] [_, _, _, _, _, _, _, _, _, _, _, _] rfl (by kernel_rfl) (by kernel_rfl) ?_
      iterate 5 refine VX.meek rfl ?_
      first | refine VX.idxI (m := 0) rfl rfl rfl rfl rfl rfl (by omega) ?_ | refine VX.idxO (m := 0) rfl rfl rfl rfl rfl rfl rfl (by omega) ?_ | refine VX.meek rfl ?_
      first | refine VX.meek rfl ?_ | refine VX.loadI rfl rfl au_l ?_ | refine VX.loadP rfl rfl rfl au_l ?_
      iterate 3 refine VX.meek rfl ?_
      first | refine VX.idxI rfl rfl rfl rfl rfl rfl (by omega) ?_ | refine VX.idxO0 rfl rfl rfl rfl rfl rfl rfl (by omega) ?_ | refine VX.idxO0 rfl rfl rfl rfl rfl rfl au_z (by omega) ?_ | refine VX.idxO rfl rfl rfl rfl rfl rfl rfl (by omega) ?_ | refine VX.idxI rfl rfl rfl rfl rfl au_z (by omega) ?_ | refine VX.idxO rfl rfl rfl rfl rfl rfl au_z (by omega) ?_ | refine VX.meek rfl ?_
      first | refine VX.meek rfl ?_ | refine VX.loadI rfl rfl au_l ?_ | refine VX.loadP rfl rfl rfl au_l ?_
      refine VX.nil ?_
      refine VX.callT rfl rfl (CallT.frame hc [0, 1, 2] rfl au_ci au_ci ?_); rintro _ _ ⟨rfl, rfl⟩; refine frK (Hc := scH (({ S with st := 0 } : Scr).cmd v S.n0 S.n1)) au_co ?_ ?_; exact CvOut_c (cv_scr (Cv.slcOld rfl) (Cv.slcOld rfl)) (CvOut_c (CvL.pure (encL_pure cY _)) (CvOut_c (CvL.pure (encL_pure cStr _)) CvOut_nil))
      refine VX.nil ?_
      exact ⟨trivial, _, rfl, rfl, rfl⟩
theorem cmd_none (v : Nat) (h : v ≠ 65 ∧ v ≠ 66 ∧ v ≠ 67 ∧ v ≠ 68 ∧ v ≠ 72 ∧ v ≠ 74 ∧ v ≠ 75) : mLookup tab 152 (.mp cmdK cmdT) (U8 v) true = some (.tup [.v .nilFunc, BL false]) := by
  obtain ⟨h1, h2, h3, h4, h5, h6, h7⟩ := h
  have e : mFind (.int .u8) (.int .u8 (v : Int)) cmdK cmdT = none := by
    simp only [mFind, likeK, if_true, Option.some.injEq, beq_iff_eq]
    rw [if_neg (by omega), if_neg (by omega), if_neg (by omega), if_neg (by omega), if_neg (by omega), if_neg (by omega), if_neg (by omega)]
  rw [show mLookup tab 152 (.mp cmdK cmdT) (U8 v) true = mLook2 tab 152 cmdK cmdT (.int .u8 (v : Int)) true from rfl]
  unfold mLook2
  simp only [tab_152, tab_5, tab_150, e]
  rfl
theorem told_t5 (S : Scr) (v : Nat) (ok : S.Ok) (h1 : ¬ (48 ≤ v ∧ v ≤ 57)) (h2 : v ≠ 59) (h : v ≠ 65 ∧ v ≠ 66 ∧ v ≠ 67 ∧ v ≠ 68 ∧ v ≠ 72 ∧ v ≠ 74 ∧ v ≠ 75) : CallT Tryd.prog 43 [.ptr 0 0, U8 v] (scH S) (fun r H' => r = .tup [] ∧ H' = scH (S.told v)) := by
  have hl := cmd_none v h
  obtain ⟨q1, q2, q3, q4, q5, q6, q7⟩ := h
  have e : S.told v = { S with st := 0 } := by
    unfold Scr.told Scr.cmd
    rw [if_neg h1, if_neg h2, if_neg q1, if_neg q2, if_neg q3, if_neg q4, if_neg q5, if_neg q6, if_neg q7]
  rw [e]
  refine CallT.intro tab_ok Tryd.func43 rfl (by kernel_rfl) (Nat.le_of_ble_eq_true rfl) ?_
  refine VC.block ?_
  refine VC.reg tab_ok [] rfl ?_
  iterate 3 refine VX.meek rfl ?_
  refine' VX.merge (d := 36) [_, _, _] rfl ?_ rfl ?_
  rotate_left
  · refine VX.guard rfl rfl (fun hb4_2 => ?_) (fun hb4_2 => ?_)
    · have ghb4_2 := hb4_2
      try simp only [au_std, Bool.not_true, Bool.not_false] at ghb4_2
      refine VX.meek rfl ?_
      refine VX.guardT rfl rfl hb4_2 ?_
      refine VX.meek rfl ?_
      refine VX.pickA rfl (fun _ => rfl) ?_
      exact VX.nil ⟨rfl, rfl⟩
    · refine VX.guardF rfl rfl hb4_2 ?_
      exact VX.pickA rfl (fun h => absurd (h.symm.trans hb4_2) (by decide)) (VX.nil ⟨rfl, rfl⟩)
  refine VX.meek rfl ?_
  refine VX.nil ?_
  refine VC.cond rfl (fun hc0 => ?_) (fun hc0 => ?_)
  · exact absurd hc0 (by simp; omega)
  · (try simp only [au_std] at hc0)
    refine VC.reg tab_ok [] rfl ?_
    iterate 3 refine VX.meek rfl ?_
    refine VX.nil ?_
    refine VC.cond rfl (fun hc2 => ?_) (fun hc2 => ?_)
    · exact absurd hc2 (by simp; omega)
    · (try simp only [au_std] at hc2)
      refine VC.reg tab_ok [] rfl ?_
      iterate 3 refine VX.meek rfl ?_
      refine VX.store rfl rfl rfl rfl rfl au_sY rfl ?_
      refine VX.nil ?_
      refine VC.reg tab_ok [] rfl ?_
      refine VX.callP0 rfl rfl rfl (commands_p) ?_
      refine VX.meek rfl ?_
      refine VX.meek (t := .tup [.v .nilFunc, BL false]) (by show (match mLookup tab _ (.mp cmdK cmdT) (U8 v) true with | some r => some (r, (none : Option (Nat × List T))) | none => none) = _; rw [hl]) ?_
      iterate 5 refine VX.meek rfl ?_
      refine VX.nil ?_
      refine VC.reg tab_ok [] rfl ?_
      refine VX.meek rfl ?_
      refine VX.nil ?_
      refine VC.condF rfl ?_
      refine VC.skip ?_
      exact ⟨trivial, _, rfl, rfl, rfl⟩
theorem told_t (S : Scr) (v : Nat) (ok : S.Ok) : CallT Tryd.prog 43 [.ptr 0 0, U8 v] (scH S) (fun r H' => r = .tup [] ∧ H' = scH (S.told v)) := by
  have hn := ok.n
  have ok0 : ({ S with st := 0 } : Scr).Ok := { ok with s := Nat.zero_le _ }
  by_cases h1 : 48 ≤ v ∧ v ≤ 57
  · rcases (show S.num = 0 ∨ S.num = 1 ∨ ¬ S.num < 2 by omega) with h | h | h
    · exact told_t0 S v ok h1.1 h1.2 h
    · exact told_t1 S v ok h1.1 h1.2 h
    · exact told_t2 S v ok h1.1 h1.2 h
  by_cases h2 : v = 59
  · subst h2; exact told_t3 S ok
  by_cases q1 : v = 65
  · subst q1; exact told_t4 S 65 ok h1 h2 _ rfl (cmd1_t _ _ _ ok0 ok.a ok.b)
  by_cases q2 : v = 66
  · subst q2; exact told_t4 S 66 ok h1 h2 _ rfl (cmd2_t _ _ _ ok0 ok.a ok.b)
  by_cases q3 : v = 67
  · subst q3; exact told_t4 S 67 ok h1 h2 _ rfl (cmd3_t _ _ _ ok0 ok.a ok.b)
  by_cases q4 : v = 68
  · subst q4; exact told_t4 S 68 ok h1 h2 _ rfl (cmd4_t _ _ _ ok0 ok.a ok.b)
  by_cases q5 : v = 72
  · subst q5; exact told_t4 S 72 ok h1 h2 _ rfl (cmd5_t _ _ _ ok0 ok.a ok.b)
  by_cases q6 : v = 74
  · subst q6; exact told_t4 S 74 ok h1 h2 _ rfl (cmd6_t _ _ _ ok0 ok.a ok.b)
  by_cases q7 : v = 75
  · subst q7; exact told_t4 S 75 ok h1 h2 _ rfl (cmd7_t _ _ _ ok0 ok.a ok.b)
  exact told_t5 S v ok h1 h2 ⟨q1, q2, q3, q4, q5, q6, q7⟩
/- a byte that is no part of a command -/
theorem put_facts (S : Scr) (ok : S.Ok) (hx : S.x < S.cols) : ((S.y : Nat) : Int) * ((S.cols : Nat) : Int) = ((S.y * S.cols : Nat) : Int) ∧ S.y * S.cols + S.x < S.grid.length ∧ S.grid.length ≤ 8192 ∧ S.x ≤ 128 := by
  have := ok.pg
  have := ok.c2
  exact ⟨(Int.natCast_mul _ _).symm, by omega, ok.g2, by omega⟩
theorem put_end (S : Scr) (v : UInt8) (h : S.y * S.cols + S.x < S.grid.length) : scH (S.put v) = [.c (scrC { S with x := S.x + 1 } (.slc 1 0 S.grid.length 1 none) (.slc 2 0 S.kept.length 1 none)), .c (putL (encL cY S.grid) ((S.y * S.cols + S.x) * 1) [U8 (v.toNat : Int)]), .c (encL cStr S.kept)] := by
  unfold scH Scr.put
  simp only [List.length_set]
  rw [cells_putY h]
theorem put_end3 (S : Scr) (v : UInt8) (h : S.y * S.cols + S.x < S.grid.length) : scH3 (S.put v) = [.c (scrC { S with x := S.x + 1 } (.slc 1 0 S.grid.length 1 none) (.slc 3 0 S.kept.length 1 none)), .c (putL (encL cY S.grid) ((S.y * S.cols + S.x) * 1) [U8 (v.toNat : Int)]), .d, .c (encL cStr S.kept)] := by
  unfold scH3 Scr.put
  simp only [List.length_set]
  rw [cells_putY h]
theorem plain_t (S : Scr) (v : UInt8) (ok : S.Ok) (hm : S.most = 0 ∨ 2 ≤ S.most) : CallT Tryd.prog 44 [.ptr 0 0, U8 (v.toNat : Int)] (scH S) (fun t H' => (t = .tup [] ∧ H' = scH (S.plain v)) ∨ (t = .tup [] ∧ H' = scH3 (S.plain v))) := by
  have hx := ok.x
  have hc2' := ok.c2
  have hg2 := ok.g2
  have hv := v.toNat_lt
  have okL := ok.lineEnd
  have hle := lineEnd_t S ok hm
  have hlx : S.lineEnd.x < S.lineEnd.cols := by rw [Scr.lineEnd_x, Scr.lineEnd_cols]; exact ok.c1
  have pL := put_facts S.lineEnd okL hlx
  have pLy := okL.y
  have pLr := okL.r2
  have hy := ok.y
  have hr := ok.r2
  refine CallT.intro tab_ok Tryd.func44 rfl (by kernel_rfl) (Nat.le_of_ble_eq_true rfl) ?_
  refine VC.block ?_
  refine VC.reg tab_ok [] rfl ?_
  iterate 3 refine VX.meek rfl ?_
  refine' VX.merge (d := 10) [_, _, _] rfl ?_ rfl ?_
  rotate_left
  · refine VX.guard rfl rfl (fun hb0_2 => ?_) (fun hb0_2 => ?_)
    · have ghb0_2 := hb0_2
      try simp only [au_std, Bool.not_true, Bool.not_false] at ghb0_2
      refine VX.meek rfl ?_
      refine VX.guardT rfl rfl hb0_2 ?_
      refine VX.meek rfl ?_
      refine VX.pickA rfl (fun _ => rfl) ?_
      exact VX.nil ⟨rfl, rfl⟩
    · refine VX.guardF rfl rfl hb0_2 ?_
      exact VX.pickA rfl (fun h => absurd (h.symm.trans hb0_2) (by decide)) (VX.nil ⟨rfl, rfl⟩)
  refine VX.meek rfl ?_
  refine VX.nil ?_
  refine VC.cond rfl (fun hc0 => ?_) (fun hc0 => ?_)
  · (try simp only [au_std] at hc0); have e0 : S.plain v = S.letter v := (by unfold Scr.plain; rw [if_pos ⟨by omega, by omega⟩])
    refine VC.seq ?_
    refine VC.drw tab_ok [] [_, _, _, _, _, _, _, _, _] rfl (by kernel_rfl) (by kernel_rfl) ?_
    iterate 3 refine VX.meek rfl ?_
    first | refine VX.meek rfl ?_ | refine VX.loadI rfl rfl au_l ?_ | refine VX.loadP rfl rfl rfl au_l ?_
    iterate 3 refine VX.meek rfl ?_
    first | refine VX.meek rfl ?_ | refine VX.loadI rfl rfl au_l ?_ | refine VX.loadP rfl rfl rfl au_l ?_
    refine VX.meek rfl ?_
    refine VX.nil ?_
    refine VX.nil ?_
    refine VC.cond rfl (fun hc1 => ?_) (fun hc1 => ?_)
    · (try simp only [au_std] at hc1); have e : S.plain v = S.lineEnd.put v := (by rw [e0]; unfold Scr.letter; rw [if_pos (by omega)])
      refine VC.regN tab_ok [] rfl ?_
      refine VX.meek rfl ?_
      refine VX.callT rfl rfl (CallT.frame (hle) [0, 1, 2] rfl au_ci au_ci ?_)
      rintro _ _ (⟨rfl, rfl⟩ | ⟨rfl, rfl⟩)
      · refine frK au_co au_co ?_
        refine VX.nil ?_
        refine VC.drw tab_ok [] [_, _, _, _, _, _, _, _, _, _, _, _, _, _, _, _, _, _, _, _] rfl (by kernel_rfl) (by kernel_rfl) ?_
        iterate 3 refine VX.meek rfl ?_
        first | refine VX.meek rfl ?_ | refine VX.loadI rfl rfl au_l ?_ | refine VX.loadP rfl rfl rfl au_l ?_
        iterate 3 refine VX.meek rfl ?_
        first | refine VX.meek rfl ?_ | refine VX.loadI rfl rfl au_l ?_ | refine VX.loadP rfl rfl rfl au_l ?_
        iterate 3 refine VX.meek rfl ?_
        first | refine VX.meek rfl ?_ | refine VX.loadI rfl rfl au_l ?_ | refine VX.loadP rfl rfl rfl au_l ?_
        refine VX.mul rfl rfl (by rw [pL.1]; omega) ?_; rw [pL.1]
        iterate 3 refine VX.meek rfl ?_
        first | refine VX.meek rfl ?_ | refine VX.loadI rfl rfl au_l ?_ | refine VX.loadP rfl rfl rfl au_l ?_
        first | refine VX.add rfl rfl (by omega) ?_ | refine VX.meek rfl ?_
        refine VX.meek rfl ?_
        refine VX.idxO0 (m := S.lineEnd.y * S.lineEnd.cols + S.lineEnd.x) rfl rfl rfl rfl rfl rfl rfl pL.2.1 ?_
        refine VX.nil ?_
        refine VX.store rfl rfl rfl rfl rfl (by rw [encL_len, cY_sz]; (try dsimp only); omega) rfl ?_
        refine VX.nil ?_
        refine VC.regN tab_ok [] rfl ?_
        iterate 3 refine VX.meek rfl ?_
        first | refine VX.meek rfl ?_ | refine VX.loadI rfl rfl au_l ?_ | refine VX.loadP rfl rfl rfl au_l ?_
        first | refine VX.add rfl rfl (by omega) ?_ | refine VX.meek rfl ?_
        iterate 2 refine VX.meek rfl ?_
        refine VX.store rfl rfl rfl rfl rfl au_sY rfl ?_
        refine VX.nil ?_
        exact ⟨trivial, _, rfl, .inl ⟨rfl, by rw [e, put_end _ _ pL.2.1]; rfl⟩⟩
      · refine frK au_co au_co ?_
        refine VX.nil ?_
        refine VC.drw tab_ok [] [_, _, _, _, _, _, _, _, _, _, _, _, _, _, _, _, _, _, _, _] rfl (by kernel_rfl) (by kernel_rfl) ?_
        iterate 3 refine VX.meek rfl ?_
        first | refine VX.meek rfl ?_ | refine VX.loadI rfl rfl au_l ?_ | refine VX.loadP rfl rfl rfl au_l ?_
        iterate 3 refine VX.meek rfl ?_
        first | refine VX.meek rfl ?_ | refine VX.loadI rfl rfl au_l ?_ | refine VX.loadP rfl rfl rfl au_l ?_
        iterate 3 refine VX.meek rfl ?_
        first | refine VX.meek rfl ?_ | refine VX.loadI rfl rfl au_l ?_ | refine VX.loadP rfl rfl rfl au_l ?_
        refine VX.mul rfl rfl (by rw [pL.1]; omega) ?_; rw [pL.1]
        iterate 3 refine VX.meek rfl ?_
        first | refine VX.meek rfl ?_ | refine VX.loadI rfl rfl au_l ?_ | refine VX.loadP rfl rfl rfl au_l ?_
        first | refine VX.add rfl rfl (by omega) ?_ | refine VX.meek rfl ?_
        refine VX.meek rfl ?_
        refine VX.idxO0 (m := S.lineEnd.y * S.lineEnd.cols + S.lineEnd.x) rfl rfl rfl rfl rfl rfl rfl pL.2.1 ?_
        refine VX.nil ?_
        refine VX.store rfl rfl rfl rfl rfl (by rw [encL_len, cY_sz]; (try dsimp only); omega) rfl ?_
        refine VX.nil ?_
        refine VC.regN tab_ok [] rfl ?_
        iterate 3 refine VX.meek rfl ?_
        first | refine VX.meek rfl ?_ | refine VX.loadI rfl rfl au_l ?_ | refine VX.loadP rfl rfl rfl au_l ?_
        first | refine VX.add rfl rfl (by omega) ?_ | refine VX.meek rfl ?_
        iterate 2 refine VX.meek rfl ?_
        refine VX.store rfl rfl rfl rfl rfl au_sY rfl ?_
        refine VX.nil ?_
        exact ⟨trivial, _, rfl, .inr ⟨rfl, by rw [e, put_end3 _ _ pL.2.1]; rfl⟩⟩
    · (try simp only [au_std] at hc1); have e : S.plain v = S.put v := (by rw [e0]; unfold Scr.letter; rw [if_neg (by omega)]); have pS := put_facts S ok (by omega)
      refine VC.skip ?_
      refine VC.drw tab_ok [] [_, _, _, _, _, _, _, _, _, _, _, _, _, _, _, _, _, _, _, _] rfl (by kernel_rfl) (by kernel_rfl) ?_
      iterate 3 refine VX.meek rfl ?_
      first | refine VX.meek rfl ?_ | refine VX.loadI rfl rfl au_l ?_ | refine VX.loadP rfl rfl rfl au_l ?_
      iterate 3 refine VX.meek rfl ?_
      first | refine VX.meek rfl ?_ | refine VX.loadI rfl rfl au_l ?_ | refine VX.loadP rfl rfl rfl au_l ?_
      iterate 3 refine VX.meek rfl ?_
      first | refine VX.meek rfl ?_ | refine VX.loadI rfl rfl au_l ?_ | refine VX.loadP rfl rfl rfl au_l ?_
      refine VX.mul rfl rfl (by rw [pS.1]; omega) ?_; rw [pS.1]
      iterate 3 refine VX.meek rfl ?_
      first | refine VX.meek rfl ?_ | refine VX.loadI rfl rfl au_l ?_ | refine VX.loadP rfl rfl rfl au_l ?_
      first | refine VX.add rfl rfl (by omega) ?_ | refine VX.meek rfl ?_
      refine VX.meek rfl ?_
      refine VX.idxO0 (m := S.y * S.cols + S.x) rfl rfl rfl rfl rfl rfl rfl pS.2.1 ?_
      refine VX.nil ?_
      refine VX.store rfl rfl rfl rfl rfl (by rw [encL_len, cY_sz]; (try dsimp only); omega) rfl ?_
      refine VX.nil ?_
      refine VC.regN tab_ok [] rfl ?_
      iterate 3 refine VX.meek rfl ?_
      first | refine VX.meek rfl ?_ | refine VX.loadI rfl rfl au_l ?_ | refine VX.loadP rfl rfl rfl au_l ?_
      first | refine VX.add rfl rfl (by omega) ?_ | refine VX.meek rfl ?_
      iterate 2 refine VX.meek rfl ?_
      refine VX.store rfl rfl rfl rfl rfl au_sY rfl ?_
      refine VX.nil ?_
      exact ⟨trivial, _, rfl, .inl ⟨rfl, by rw [e, put_end _ _ pS.2.1]; rfl⟩⟩
  · (try simp only [au_std] at hc0); have n0 : ¬ (32 ≤ v.toNat ∧ v.toNat ≤ 126) := (by rintro ⟨a, b⟩; have := hc0 (by omega); first | omega | (simp at this; omega))
    refine VC.reg tab_ok [] rfl ?_
    iterate 3 refine VX.meek rfl ?_
    refine VX.nil ?_
    refine VC.cond rfl (fun hc2 => ?_) (fun hc2 => ?_)
    · (try simp only [au_std] at hc2); have e : S.plain v = S.lineEnd := (by unfold Scr.plain; rw [if_neg n0, if_pos (by omega)])
      refine VC.regN tab_ok [] rfl ?_
      refine VX.meek rfl ?_
      refine VX.callT rfl rfl (CallT.frame (hle) [0, 1, 2] rfl au_ci au_ci ?_)
      rintro _ _ (⟨rfl, rfl⟩ | ⟨rfl, rfl⟩)
      · refine frK au_co au_co ?_
        refine VX.nil ?_
        exact ⟨trivial, _, rfl, .inl ⟨rfl, by rw [e]; rfl⟩⟩
      · refine frK au_co au_co ?_
        refine VX.nil ?_
        exact ⟨trivial, _, rfl, .inr ⟨rfl, by rw [e]; rfl⟩⟩
    · (try simp only [au_std] at hc2); have n1 : ¬ v.toNat = 10 := (by omega)
      refine VC.reg tab_ok [] rfl ?_
      iterate 3 refine VX.meek rfl ?_
      refine VX.nil ?_
      refine VC.cond rfl (fun hc3 => ?_) (fun hc3 => ?_)
      · (try simp only [au_std] at hc3); have e : S.plain v = { S with x := 0 } := (by unfold Scr.plain; rw [if_neg n0, if_neg n1, if_pos (by omega)])
        refine VC.regN tab_ok [] rfl ?_
        iterate 3 refine VX.meek rfl ?_
        refine VX.store rfl rfl rfl rfl rfl au_sY rfl ?_
        refine VX.nil ?_
        exact ⟨trivial, _, rfl, .inl ⟨rfl, by rw [e]; rfl⟩⟩
      · (try simp only [au_std] at hc3); have n2 : ¬ v.toNat = 13 := (by omega)
        refine VC.reg tab_ok [] rfl ?_
        iterate 3 refine VX.meek rfl ?_
        refine VX.nil ?_
        refine VC.cond rfl (fun hc4 => ?_) (fun hc4 => ?_)
        · (try simp only [au_std] at hc4); have e : S.plain v = { S with x := S.x - 1 } := (by unfold Scr.plain; rw [if_neg n0, if_neg n1, if_neg n2, if_pos (by omega)])
          refine VC.regN tab_ok [] rfl ?_
          iterate 4 refine VX.meek rfl ?_
          first | refine VX.meek rfl ?_ | refine VX.loadI rfl rfl au_l ?_ | refine VX.loadP rfl rfl rfl au_l ?_
          first | refine VX.sub rfl rfl (by omega) ?_ | refine VX.meek rfl ?_
          refine VX.maxX rfl rfl ?_; rw [show max ((S.x : Int) - 1) 0 = ((S.x - 1 : Nat) : Int) from by omega]
          iterate 2 refine VX.meek rfl ?_
          refine VX.store rfl rfl rfl rfl rfl au_sY rfl ?_
          refine VX.nil ?_
          exact ⟨trivial, _, rfl, .inl ⟨rfl, by rw [e]; rfl⟩⟩
        · (try simp only [au_std] at hc4); have n3 : ¬ v.toNat = 8 := (by omega)
          refine VC.reg tab_ok [] rfl ?_
          iterate 3 refine VX.meek rfl ?_
          refine VX.nil ?_
          refine VC.cond rfl (fun hc5 => ?_) (fun hc5 => ?_)
          · (try simp only [au_std] at hc5); have e : S.plain v = { S with x := max (min ((S.x / 8 + 1) * 8) (S.cols - 1)) S.x } := (by unfold Scr.plain; rw [if_neg n0, if_neg n1, if_neg n2, if_neg n3, if_pos (by omega)])
            have e8 : max (min (((S.x : Int) / 8 + 1) * 8) ((S.cols : Int) - 1)) (S.x : Int) = ((max (min ((S.x / 8 + 1) * 8) (S.cols - 1)) S.x : Nat) : Int) := (by have := ok.c1; omega)
            refine VC.drwN tab_ok [] [_, _, _, _, _, _, _, _, _, _, _, _, _, _, _, _, _, _, _, _, _] rfl (by kernel_rfl) (by kernel_rfl) ?_
            iterate 4 refine VX.meek rfl ?_
            first | refine VX.meek rfl ?_ | refine VX.loadI rfl rfl au_l ?_ | refine VX.loadP rfl rfl rfl au_l ?_
            refine VX.quoX rfl rfl (by omega) (by omega) (by omega) ?_
            first | refine VX.add rfl rfl (by omega) ?_ | refine VX.meek rfl ?_
            first | refine VX.mul rfl rfl (by omega) ?_ | refine VX.meek rfl ?_
            iterate 3 refine VX.meek rfl ?_
            first | refine VX.meek rfl ?_ | refine VX.loadI rfl rfl au_l ?_ | refine VX.loadP rfl rfl rfl au_l ?_
            first | refine VX.sub rfl rfl (by omega) ?_ | refine VX.meek rfl ?_
            first | refine VX.minX rfl rfl ?_ | refine VX.meek rfl ?_
            iterate 3 refine VX.meek rfl ?_
            first | refine VX.meek rfl ?_ | refine VX.loadI rfl rfl au_l ?_ | refine VX.loadP rfl rfl rfl au_l ?_
            refine VX.maxX rfl rfl ?_; rw [e8]
            iterate 2 refine VX.meek rfl ?_
            refine VX.nil ?_
            refine VX.store rfl rfl rfl rfl rfl au_sY rfl ?_
            refine VX.nil ?_
            exact ⟨trivial, _, rfl, .inl ⟨rfl, by rw [e]; rfl⟩⟩
          · (try simp only [au_std] at hc5); have n4 : ¬ v.toNat = 9 := (by omega)
            refine VC.reg tab_ok [] rfl ?_
            iterate 3 refine VX.meek rfl ?_
            refine VX.nil ?_
            refine VC.cond rfl (fun hc6 => ?_) (fun hc6 => ?_)
            · (try simp only [au_std] at hc6); have e : S.plain v = { S.clear 0 S.grid.length with x := 0, y := 0 } := (by unfold Scr.plain; rw [if_neg n0, if_neg n1, if_neg n2, if_neg n3, if_neg n4, if_pos (by omega)])
              refine VC.reg tab_ok [] rfl ?_
              iterate 4 refine VX.meek rfl ?_
              first | refine VX.meek rfl ?_ | refine VX.loadI rfl rfl au_l ?_ | refine VX.loadP rfl rfl rfl au_l ?_
              refine VX.meek rfl ?_
              refine VX.callT rfl rfl (CallT.frame (clear_t S 0 S.grid.length (Nat.le_refl _) hg2 (by omega)) [0, 1, 2] rfl au_ci au_ci ?_)
              rintro _ _ ⟨rfl, rfl⟩
              refine frK au_co au_co ?_
              refine VX.nil ?_
              refine VC.regN tab_ok [] rfl ?_
              iterate 4 refine VX.meek rfl ?_
              refine VX.store rfl rfl rfl rfl rfl au_sY rfl ?_
              iterate 2 refine VX.meek rfl ?_
              refine VX.store rfl rfl rfl rfl rfl au_sY rfl ?_
              refine VX.nil ?_
              exact ⟨trivial, _, rfl, .inl ⟨rfl, by rw [e]; rfl⟩⟩
            · (try simp only [au_std] at hc6); have n5 : ¬ v.toNat = 12 := (by omega)
              refine VC.reg tab_ok [] rfl ?_
              iterate 3 refine VX.meek rfl ?_
              refine VX.nil ?_
              refine VC.cond rfl (fun hc7 => ?_) (fun hc7 => ?_)
              · (try simp only [au_std] at hc7); have e : S.plain v = { S with st := 1 } := (by unfold Scr.plain; rw [if_neg n0, if_neg n1, if_neg n2, if_neg n3, if_neg n4, if_neg n5, if_pos (by omega)])
                refine VC.regN tab_ok [] rfl ?_
                iterate 3 refine VX.meek rfl ?_
                refine VX.store rfl rfl rfl rfl rfl au_sY rfl ?_
                refine VX.nil ?_
                exact ⟨trivial, _, rfl, .inl ⟨rfl, by rw [e]; rfl⟩⟩
              · (try simp only [au_std] at hc7); have e : S.plain v = S := (by unfold Scr.plain; rw [if_neg n0, if_neg n1, if_neg n2, if_neg n3, if_neg n4, if_neg n5, if_neg (by omega)])
                refine VC.skip ?_
                exact ⟨trivial, _, rfl, .inl ⟨rfl, by rw [e]⟩⟩
end
section
open Go.RowKit
set_option maxRecDepth 10000
theorem blanks_p (n : Nat) (h1 : 1 ≤ n) (hn : n ≤ 8192) : CallP Tryd.prog 38 [I64 n] (.islc (encL cY (List.replicate n 32)) (List.replicate n (32 : UInt8)).length none) := by
  refine CallP.of_world (us := [.int .i64 n]) rfl (by simp only [T.pure, encL_pure]) (fun M vs h => ?_) (by kernel_rfl) (fun w => ?_)
  · obtain ⟨u, r, rfl, h2, h3⟩ := h
    obtain rfl := h2
    obtain rfl := h3
    rfl
  · refine (blanks_any n w h1 hn).mono ?_
    rintro e w' ⟨v, rfl, hown, hb⟩
    refine ⟨v, rfl, hb, fun M hM hX => ?_⟩
    subst hM
    obtain ⟨hl, h0 | ⟨g, o, c, rfl, ho⟩⟩ := hown
    · obtain ⟨A, -, h0, -⟩ := h0; omega
    · obtain ⟨cur, fz, hk⟩ := ho.kind
      rw [List.length_replicate]
      refine ⟨_, c, rfl, ho.le, ho.max, fun q hq => (by cases hq), .inr ⟨g, o, cur, rfl, ⟨hX g ho.base, _, fz, hk⟩, repA_of fun i t ht => ?_⟩⟩
      have hin : i < n := by
        have := (List.getElem?_eq_some_iff.1 ht).1
        rw [encL_len, cY_sz, List.length_replicate] at this; omega
      have e1 : t = U8 32 := by
        have : (encL cY (List.replicate n (32 : UInt8)))[i]? = some (U8 32) := by
          have e2 : ∀ m, encL cY (List.replicate m (32 : UInt8)) = List.replicate m (U8 32) := fun m => by
            induction m with
            | zero => rfl
            | succ m ih => rw [List.replicate_succ, List.replicate_succ, ← ih]; rfl
          rw [e2, List.getElem?_replicate, if_pos hin]
        rw [this] at ht; injection ht with ht; exact ht.symm
      subst e1
      refine ⟨blankV, ?_, rfl⟩
      have h2 := ho.holds i blankV (by rw [List.getElem?_replicate, if_pos hin])
      rw [World.cell?] at h2
      simp only [hk] at h2
      exact h2
def blankScr (c r k : Nat) : Scr := ⟨c, r, k, 0, 0, List.replicate (c * r) 32, [], 0, 0, 0, 0⟩
theorem blank_ok {c r k : Nat} (h1 : 1 ≤ c) (h2 : c ≤ 128) (h3 : 1 ≤ r) (h4 : r ≤ 64) (h5 : k ≤ 1000) : (blankScr c r k).Ok :=
  ⟨h1, h2, h3, h4, h5, Nat.zero_le _, h3, List.length_replicate, Nat.zero_le _, Nat.zero_le _, Nat.zero_le _, Nat.zero_le _, Nat.zero_le _⟩
theorem new_p (c r k : Nat) (h1 : 1 ≤ c) (h2 : c ≤ 128) (h3 : 1 ≤ r) (h4 : r ≤ 64) (h5 : k ≤ 1000) : CallP Tryd.prog 11 [I64 c, I64 r, I64 k] (.tup [scrT (blankScr c r k), I64 0]) := by
  have hcr : 1 ≤ c * r := Nat.mul_pos h1 h3
  have hcr2 : c * r ≤ 8192 := Nat.mul_le_mul h2 h4
  have hmul : ((c : Nat) : Int) * ((r : Nat) : Int) = ((c * r : Nat) : Int) := (Int.natCast_mul _ _).symm
  have hf : CallP Tryd.prog 37 [I64 c, I64 r] (BL true) := by
    have := fits_p c r
    rwa [show (decide (1 ≤ (c : Int)) && decide ((c : Int) ≤ 128) && decide (1 ≤ (r : Int)) && decide ((r : Int) ≤ 64)) = true from by simp; omega] at this
  refine CallP.intro2 au_pu au_pu ?_
  refine CallT.intro tab_ok Tryd.func11 rfl (by kernel_rfl) (Nat.le_of_ble_eq_true rfl) ?_
  refine VC.reg tab_ok [] rfl ?_
  refine VX.new rfl rfl ?_
  refine VX.meek rfl ?_
  refine VX.nil ?_
  refine VC.seq ?_
  refine VC.reg tab_ok [] rfl ?_
  iterate 2 refine VX.meek rfl ?_
  refine VX.callP0 rfl rfl rfl (hf) ?_
  iterate 2 refine VX.meek rfl ?_
  refine' VX.merge (d := 15) [_, _, _] rfl ?_ rfl ?_
  rotate_left
  · refine VX.guard rfl rfl (fun hb1_4 => ?_) (fun hb1_4 => ?_)
    · have ghb1_4 := hb1_4
      try simp only [au_std, Bool.not_true, Bool.not_false] at ghb1_4
      refine VX.meek rfl ?_
      refine VX.guardT rfl rfl hb1_4 ?_
      refine VX.meek rfl ?_
      refine VX.pickO rfl (fun _ => rfl) ?_
      exact VX.nil ⟨rfl, rfl⟩
    · refine VX.guardF rfl rfl hb1_4 ?_
      exact VX.pickO rfl (fun h => absurd (h.symm.trans hb1_4) (by decide)) (VX.nil ⟨rfl, rfl⟩)
  refine VX.meek rfl ?_
  refine' VX.merge (d := 19) [_, _, _] rfl ?_ rfl ?_
  rotate_left
  · refine VX.guard rfl rfl (fun hb1_8 => ?_) (fun hb1_8 => ?_)
    · have ghb1_8 := hb1_8
      try simp only [au_std, Bool.not_true, Bool.not_false] at ghb1_8
      refine VX.meek rfl ?_
      refine VX.guardT rfl rfl hb1_8 ?_
      refine VX.meek rfl ?_
      refine VX.pickO rfl (fun _ => rfl) ?_
      exact VX.nil ⟨rfl, rfl⟩
    · refine VX.guardF rfl rfl hb1_8 ?_
      exact VX.pickO rfl (fun h => absurd (h.symm.trans hb1_8) (by decide)) (VX.nil ⟨rfl, rfl⟩)
  refine VX.nil ?_
  refine VC.cond rfl (fun hc0 => ?_) (fun hc0 => ?_)
  · exact absurd hc0 (by simp; omega)
  · (try simp only [au_std] at hc0)
    refine VC.skip ?_
    refine VC.reg tab_ok [] rfl ?_
    iterate 5 refine VX.meek rfl ?_
    refine VX.mul rfl rfl (by rw [hmul]; omega) ?_; rw [hmul]
    refine VX.callP0 rfl rfl rfl (blanks_p (c * r) hcr hcr2) ?_
    refine VX.meek rfl ?_
    refine VX.store rfl rfl rfl rfl rfl au_sY rfl ?_
    refine VX.meek rfl ?_
    refine VX.nil ?_
    refine VC.ret ?_
    exact ⟨trivial, _, rfl, Cv.tup (CvL.cons (Cv.agg (cv_scr (S := blankScr c r k) (Cv.pure (encL_pure cY _)) (Cv.nil _ (.inl rfl)))) (CvL.cons (Cv.pure rfl) CvL.nil))⟩
theorem cloneY_t (b : UInt8) (l : List UInt8) (hl : (b :: l).length ≤ 8192) : CallT Tryd.prog 41 [.islc (encL cY (b :: l)) (b :: l).length none] [] (fun t H' => t = .slc 0 0 (b :: l).length 1 none ∧ H' = [.c (encL cY (b :: l))]) := by
  refine CallT.intro tab_ok Tryd.func41 rfl (by kernel_rfl) (Nat.le_of_ble_eq_true rfl) ?_
  refine VC.reg tab_ok [] rfl ?_
  refine VX.meek rfl ?_
  refine VX.nil ?_
  refine VC.seq ?_
  refine VC.reg tab_ok [] rfl ?_
  iterate 2 refine VX.meek rfl ?_
  refine VX.nil ?_
  refine VC.condF rfl ?_
  refine VC.skip ?_
  refine VC.reg tab_ok [5] rfl ?_
  refine VX.newI rfl rfl ?_
  refine VX.meek rfl ?_
  refine VX.appX rfl rfl (app_none rfl rfl rfl (src_c cY (l := b :: l) rfl rfl rfl rfl) (by dsimp only; omega) (by omega) (by rw [encL_len]; rfl)) ?_
  refine VX.meek rfl ?_
  refine VX.nil ?_
  refine VC.ret ?_
  exact ⟨trivial, _, rfl, rfl, rfl⟩
theorem cloneS_t (b : List UInt8) (l : List (List UInt8)) (hl : (b :: l).length ≤ 1000) : CallT Tryd.prog 42 [.islc (encL cStr (b :: l)) (b :: l).length none] [] (fun t H' => t = .slc 0 0 (b :: l).length 1 none ∧ H' = [.c (encL cStr (b :: l))]) := by
  refine CallT.intro tab_ok Tryd.func42 rfl (by kernel_rfl) (Nat.le_of_ble_eq_true rfl) ?_
  refine VC.reg tab_ok [] rfl ?_
  refine VX.meek rfl ?_
  refine VX.nil ?_
  refine VC.seq ?_
  refine VC.reg tab_ok [] rfl ?_
  iterate 2 refine VX.meek rfl ?_
  refine VX.nil ?_
  refine VC.condF rfl ?_
  refine VC.skip ?_
  refine VC.reg tab_ok [5] rfl ?_
  refine VX.newI rfl rfl ?_
  refine VX.meek rfl ?_
  refine VX.appX rfl rfl (app_none rfl rfl rfl (src_c cStr (l := b :: l) rfl rfl rfl rfl) (by dsimp only; omega) (by omega) (by rw [encL_len]; rfl)) ?_
  refine VX.meek rfl ?_
  refine VX.nil ?_
  refine VC.ret ?_
  exact ⟨trivial, _, rfl, rfl, rfl⟩
theorem cursor_p (S : Scr) : CallP Tryd.prog 18 [scrT S] (.tup [I64 S.x, I64 S.y]) := by
  refine CallP.intro2 au_pu au_pu ?_
  refine CallT.intro tab_ok Tryd.func18 rfl (by kernel_rfl) (Nat.le_of_ble_eq_true rfl) ?_
  refine VC.reg tab_ok [1] rfl ?_
  refine VX.newI rfl rfl ?_
  iterate 2 refine VX.meek rfl ?_
  refine VX.nil ?_
  refine VC.drw tab_ok [] [_, _, _, _, _, _] rfl (by kernel_rfl) (by kernel_rfl) ?_
  refine VX.meek rfl ?_
  first | refine VX.meek rfl ?_ | refine VX.loadI rfl rfl au_l ?_ | refine VX.loadP rfl rfl rfl au_l ?_
  refine VX.meek rfl ?_
  first | refine VX.meek rfl ?_ | refine VX.loadI rfl rfl au_l ?_ | refine VX.loadP rfl rfl rfl au_l ?_
  iterate 2 refine VX.meek rfl ?_
  refine VX.nil ?_
  refine VX.nil ?_
  refine VC.ret ?_
  exact ⟨trivial, _, rfl, Cv.eq (by first | rfl | (simp [*]; done)) rfl⟩
theorem size_c (S : Scr) : CallP Tryd.prog 39 [scrT S] (.tup [I64 S.cols, I64 S.rows]) := by
  refine CallP.intro2 au_pu au_pu ?_
  refine CallT.intro tab_ok Tryd.func39 rfl (by kernel_rfl) (Nat.le_of_ble_eq_true rfl) ?_
  refine VC.reg tab_ok [1] rfl ?_
  refine VX.newI rfl rfl ?_
  iterate 2 refine VX.meek rfl ?_
  refine VX.nil ?_
  refine VC.drw tab_ok [] [_, _, _, _, _, _] rfl (by kernel_rfl) (by kernel_rfl) ?_
  refine VX.meek rfl ?_
  first | refine VX.meek rfl ?_ | refine VX.loadI rfl rfl au_l ?_ | refine VX.loadP rfl rfl rfl au_l ?_
  refine VX.meek rfl ?_
  first | refine VX.meek rfl ?_ | refine VX.loadI rfl rfl au_l ?_ | refine VX.loadP rfl rfl rfl au_l ?_
  iterate 2 refine VX.meek rfl ?_
  refine VX.nil ?_
  refine VX.nil ?_
  refine VC.ret ?_
  exact ⟨trivial, _, rfl, Cv.eq (by first | rfl | (simp [*]; done)) rfl⟩
theorem CallT.empty {P : Program} {f : FuncId} {Q : T → Hp → Prop} (hgo : goB P f = true) (h : ∀ A k, CallT P f [.v (.slice A 0 k)] [] Q) : CallT P f [.islc [] 0 none] [] Q :=
  ⟨hgo, fun X0 M us hS hr => by
    obtain ⟨u, q, rfl, ⟨A, k, rfl, h2⟩, hq⟩ := hr
    exact (h A k).2 X0 M _ hS ⟨_, q, rfl, rfl, hq⟩⟩
theorem cloneK_t (K : List (List UInt8)) (hl : K.length ≤ 1000) : CallT Tryd.prog 42 [.islc (encL cStr K) K.length none] [] (fun t H' => (t = .v (.slice none 0 0) ∧ H' = [] ∧ K = []) ∨ (t = .slc 0 0 K.length 1 none ∧ H' = [.c (encL cStr K)])) := by
  cases K with
  | nil =>
    refine CallT.empty (by kernel_rfl) fun A k => ?_
    cases A with
    | none =>
      refine CallT.intro tab_ok Tryd.func42 rfl (by kernel_rfl) (Nat.le_of_ble_eq_true rfl) ?_
      refine VC.reg tab_ok [] rfl ?_
      refine VX.meek rfl ?_
      refine VX.nil ?_
      refine VC.seq ?_
      refine VC.reg tab_ok [] rfl ?_
      iterate 2 refine VX.meek rfl ?_
      refine VX.nil ?_
      refine VC.condT rfl ?_
      refine VC.reg tab_ok [] rfl ?_
      refine VX.meek rfl ?_
      refine VX.nil ?_
      refine VC.ret ?_
      exact ⟨trivial, _, rfl, .inl ⟨rfl, rfl, rfl⟩⟩
    | some a =>
      refine CallT.intro tab_ok Tryd.func42 rfl (by kernel_rfl) (Nat.le_of_ble_eq_true rfl) ?_
      refine VC.reg tab_ok [] rfl ?_
      refine VX.meek rfl ?_
      refine VX.nil ?_
      refine VC.seq ?_
      refine VC.reg tab_ok [] rfl ?_
      iterate 2 refine VX.meek rfl ?_
      refine VX.nil ?_
      refine VC.condF rfl ?_
      refine VC.skip ?_
      refine VC.reg tab_ok [5] rfl ?_
      refine VX.newI rfl rfl ?_
      refine VX.meek rfl ?_
      refine VX.appX rfl rfl (app_none (ys := []) (n2 := 0) rfl rfl rfl rfl (by decide) (by decide) rfl) ?_
      refine VX.meek rfl ?_
      refine VX.nil ?_
      refine VC.ret ?_
      exact ⟨trivial, _, rfl, .inr ⟨rfl, rfl⟩⟩
  | cons b K => exact (cloneS_t b K hl).mono fun t H' h => .inr h
theorem cloneG_t (l : List UInt8) (h1 : 1 ≤ l.length) (hl : l.length ≤ 8192) : CallT Tryd.prog 41 [.islc (encL cY l) l.length none] [] (fun t H' => t = .slc 0 0 l.length 1 none ∧ H' = [.c (encL cY l)]) := by
  cases l with
  | nil => simp at h1
  | cons b l => exact cloneY_t b l hl
theorem bytes_take (S : Scr) (l : List UInt8) {i : Nat} (h : i < l.length) : S.bytes (l.take (i + 1)) = (S.bytes (l.take i)).byte l[i] := by
  unfold Scr.bytes
  rw [List.take_succ_eq_append_getElem h, List.foldl_append]
  rfl
abbrev NILs : T := .v (.slice none 0 0)
theorem scr_most (S : Scr) (l : List UInt8) : (S.bytes l).most = S.most := by
  have hk : ∀ (S : Scr) x, (S.keep x).most = S.most := fun S x => by unfold Scr.keep; split; rfl; split <;> rfl
  have hsc : ∀ S : Scr, S.scroll.most = S.most := fun S => by unfold Scr.scroll Scr.withGrid; exact hk S _
  have hle : ∀ S : Scr, S.lineEnd.most = S.most := fun S => by unfold Scr.lineEnd; split; rfl; exact hsc _
  have hbl : ∀ (S : Scr) n f t, (S.blank n f t).most = S.most := by
    intro S n f t
    unfold Scr.blank Scr.clear
    repeat' split
    all_goals rfl
  have hcm : ∀ (S : Scr) k n m, (S.cmd k n m).most = S.most := by
    intro S k n m
    unfold Scr.cmd
    repeat' split
    all_goals first | rfl | exact hbl _ _ _ _
  have hb : ∀ (S : Scr) v, (S.byte v).most = S.most := fun S v => by
    unfold Scr.byte
    split
    · split <;> rfl
    split
    · unfold Scr.told
      split
      · split
        · rfl
        · split <;> rfl
      split
      · rfl
      · exact hcm _ _ _ _
    · unfold Scr.plain
      split
      · unfold Scr.letter; split
        · exact hle S
        · rfl
      split
      · exact hle S
      repeat' split
      all_goals rfl
  unfold Scr.bytes
  induction l generalizing S with
  | nil => rfl
  | cons v l ih => rw [List.foldl_cons, ih, hb]
theorem write_p (S : Scr) (l : List UInt8) (ok : S.Ok) (hm : S.most = 0 ∨ 2 ≤ S.most) (hl : l.length ≤ 100000) : CallP Tryd.prog 17 [scrT S, strT l] (scrT (S.bytes l)) := by
  have hc1 := ok.c1
  have hg1 : 1 ≤ S.grid.length := Nat.le_trans hc1 ok.cg
  have hg2 := ok.g2
  have hk1 : S.kept.length ≤ 1000 := Nat.le_trans ok.k ok.m
  have hpS := scr_pure S
  refine CallP.intro2 au_pu au_pu ?_
  refine CallT.intro tab_ok Tryd.func17 rfl (by kernel_rfl) (Nat.le_of_ble_eq_true rfl) ?_
  refine VC.reg tab_ok [] rfl ?_
  refine VX.new rfl rfl ?_
  refine VX.new rfl rfl ?_
  refine VX.nil ?_
  refine VC.scope ?_
  refine VC.seq ?_
  refine VC.reg tab_ok [] rfl ?_
  refine VX.meek rfl ?_
  first | refine VX.meek rfl ?_ | refine VX.loadI rfl rfl au_l ?_ | refine VX.loadP rfl rfl rfl au_l ?_
  refine VX.meek rfl ?_
  refine VX.nil ?_
  refine VC.cond rfl (fun hc0 => ?_) (fun hc0 => ?_)
  · exact absurd hc0 (by simp; omega)
  · (try simp only [au_std] at hc0)
    refine VC.skip ?_
    refine VC.reg tab_ok [] rfl ?_
    refine VX.meek rfl ?_
    first | refine VX.meek rfl ?_ | refine VX.loadI rfl rfl au_l ?_ | refine VX.loadP rfl rfl rfl au_l ?_
    refine VX.callT rfl rfl (CallT.frame (cloneG_t S.grid hg1 hg2) [] rfl au_ci au_ci ?_)
    rintro _ _ ⟨rfl, rfl⟩
    refine frK au_co au_co ?_
    refine VX.meek rfl ?_
    refine VX.store rfl rfl rfl rfl rfl au_sY rfl ?_
    refine VX.nil ?_
    refine VC.reg tab_ok [] rfl ?_
    refine VX.meek rfl ?_
    first | refine VX.meek rfl ?_ | refine VX.loadI rfl rfl au_l ?_ | refine VX.loadP rfl rfl rfl au_l ?_
    refine VX.callT rfl rfl (CallT.frame (cloneK_t S.kept hk1) [] rfl au_ci au_ci ?_)
    rintro _ _ (⟨rfl, rfl, hk0⟩ | ⟨rfl, rfl⟩)
    · refine frK au_co au_co ?_
      refine VX.meek rfl ?_
      refine VX.store rfl rfl rfl rfl rfl au_sY rfl ?_
      refine VX.nil ?_
      refine VC.view ([(2, .ptr 0 0), (4, .ptr 3 0)]) ((scH S ++ [.c (scrC zeroScr NILs NILs)])) [1] rfl (by refine ⟨[some 0, some 2, none, some 1], rfl, by first | trivial | decide, rfl, ?_, ?_⟩ <;> (repeat' first | exact trivial | exact CvB_n | exact CvB_d | exact CvB_o rfl | refine CvE_app ?_ ?_ | refine CvE_cons rfl ?_ ?_ | refine CvH_cons ?_ ?_ | refine CvB_c rfl ?_ | fail) <;> first | exact au_v | (first | (rw [hk0]; exact cv_scr (S := S) (Cv.slc rfl (.inl rfl)) (Cv.nilv rfl)) | exact CvL.pure (encL_pure cY _) | (rw [hk0]; rfl) | exact CvL.pure rfl)) ?_
      refine VC.seq ?_
      refine VC.label ?_
      refine VC.seq ?_
      refine VC.reg tab_ok [] rfl ?_
      refine VX.meek rfl ?_
      refine VX.meek (t := I64 (l.length : Nat)) rfl ?_
      refine VX.meek rfl ?_
      refine VX.nil ?_
      refine VC.block ?_
      refine VC.loopS (σ := Nat) (fun i => l.length - i) (fun i => i ≤ l.length) (fun i => [(21, I64 i), (2, .ptr 0 0), (4, .ptr 3 0)]) (fun i => scH (S.bytes (l.take i)) ++ [.c (scrC zeroScr NILs NILs)]) [1, 20] rfl (0) ?_ ?_ ?_
      · refine ⟨[some 0, some 1, some 2, some 3], rfl, by first | trivial | decide, rfl, ?_, ?_⟩ <;> (repeat' first | exact trivial | exact CvB_n | exact CvB_d | exact CvB_o rfl | refine CvE_app ?_ ?_ | refine CvE_cons rfl ?_ ?_ | refine CvH_cons ?_ ?_ | refine CvB_c rfl ?_ | fail) <;> first | exact au_v | (first | exact cv_scr (S := S) (Cv.slc rfl (.inl rfl)) (Cv.slc rfl (.inl rfl)) | exact CvL.pure (encL_pure cY _) | exact CvL.pure (encL_pure cStr _) | exact CvL.pure rfl)
      · (try dsimp only); omega
      rintro i hi
      refine VC.reg tab_ok [] rfl ?_
      refine VX.meek rfl ?_
      refine VX.nil ?_
      refine VC.seq ?_
      refine VC.cond rfl (fun hc1 => ?_) (fun hc1 => ?_)
      · (try simp only [au_std] at hc1); have hil : i < l.length := (by omega); have hby := bytes_take S l hil; have okT := ok.bytes (l.take i); have hmT : (S.bytes (l.take i)).most = 0 ∨ 2 ≤ (S.bytes (l.take i)).most := (by rw [scr_most]; exact hm)
        have hvl : l[i]? = some l[i] := List.getElem?_eq_getElem hil
        have hvt := (l[i]).toNat_lt
        have hpl := plain_t (S.bytes (l.take i)) l[i] okT hmT
        have hto := told_t (S.bytes (l.take i)) l[i].toNat okT
        generalize hv : l[i] = v at hby hvl hpl hto hvt
        generalize S.bytes (l.take i) = Tt at *
        refine VC.skip ?_
        refine VC.seq ?_
        refine VC.block ?_
        refine VC.reg tab_ok [] rfl ?_
        iterate 2 refine VX.meek rfl ?_
        refine VX.nil ?_
        refine VC.reg tab_ok [] rfl ?_
        iterate 2 refine VX.meek rfl ?_
        refine VX.idxY (m := i) rfl rfl rfl rfl rfl hvl ?_
        refine VX.meek rfl ?_
        refine VX.nil ?_
        refine VC.seq ?_
        refine VC.reg tab_ok [] rfl ?_
        refine VX.meek rfl ?_
        first | refine VX.meek rfl ?_ | refine VX.loadI rfl rfl au_l ?_ | refine VX.loadP rfl rfl rfl au_l ?_
        refine VX.nil ?_
        refine VC.block ?_
        refine VC.reg tab_ok [] rfl ?_
        iterate 2 refine VX.meek rfl ?_
        refine VX.nil ?_
        refine VC.cond rfl (fun hc2 => ?_) (fun hc2 => ?_)
        · (try simp only [au_std] at hc2); have hst : Tt.st = 1 := (by omega)
          refine VC.reg tab_ok [] rfl ?_
          refine VX.meek rfl ?_
          refine VX.store rfl rfl rfl rfl rfl au_sY rfl ?_
          refine VX.nil ?_
          refine VC.seq ?_
          refine VC.reg tab_ok [] rfl ?_
          iterate 2 refine VX.meek rfl ?_
          refine VX.nil ?_
          refine VC.cond rfl (fun hc3 => ?_) (fun hc3 => ?_)
          · (try simp only [au_std] at hc3); have e : Tt.byte v = { Tt with st := 2, n0 := 0, n1 := 0, num := 0 } := (by unfold Scr.byte; rw [if_pos hst, if_pos (by omega)])
            refine VC.reg tab_ok [] rfl ?_
            refine VX.meek rfl ?_
            refine VX.store rfl rfl rfl rfl rfl au_sY rfl ?_
            refine VX.nil ?_
            refine VC.reg tab_ok [] rfl ?_
            iterate 2 refine VX.meek rfl ?_
            refine VX.store rfl rfl rfl rfl rfl au_sY rfl ?_
            refine VX.nil ?_
            refine VC.regN tab_ok [] rfl ?_
            refine VX.meek rfl ?_
            refine VX.store rfl rfl rfl rfl rfl au_sY rfl ?_
            refine VX.nil ?_
            refine VC.exit ?_
            refine VC.regN tab_ok [] rfl ?_
            first | refine VX.add rfl rfl (by omega) ?_ | refine VX.meek rfl ?_
            refine VX.meek rfl ?_
            refine VX.nil ?_
            refine ⟨i + 1, by (try dsimp only); omega, ?_, (by refine ⟨[some 0, some 1, some 2, some 3], rfl, by first | trivial | decide, rfl, ?_, ?_⟩ <;> (repeat' first | exact trivial | exact CvB_n | exact CvB_d | exact CvB_o rfl | refine CvE_app ?_ ?_ | refine CvE_cons rfl ?_ ?_ | refine CvH_cons ?_ ?_ | refine CvB_c rfl ?_ | fail) <;> first | exact au_v | (first | exact CvL.pure rfl | (rw [hby, e]; first | exact cv_scr (S := { Tt with st := 2, n0 := 0, n1 := 0, num := 0 }) (Cv.slc rfl (.inl rfl)) (Cv.slc rfl (.inl rfl)) | exact CvL.pure (encL_pure cY _) | exact CvL.pure (encL_pure cStr _))))⟩
            (try dsimp only); omega
          · (try simp only [au_std] at hc3); have e : Tt.byte v = { Tt with st := 0 } := (by unfold Scr.byte; rw [if_pos hst, if_neg (by omega)])
            refine VC.skip ?_
            refine VC.exit ?_
            refine VC.regN tab_ok [] rfl ?_
            first | refine VX.add rfl rfl (by omega) ?_ | refine VX.meek rfl ?_
            refine VX.meek rfl ?_
            refine VX.nil ?_
            refine ⟨i + 1, by (try dsimp only); omega, ?_, (by refine ⟨[some 0, some 1, some 2, some 3], rfl, by first | trivial | decide, rfl, ?_, ?_⟩ <;> (repeat' first | exact trivial | exact CvB_n | exact CvB_d | exact CvB_o rfl | refine CvE_app ?_ ?_ | refine CvE_cons rfl ?_ ?_ | refine CvH_cons ?_ ?_ | refine CvB_c rfl ?_ | fail) <;> first | exact au_v | (first | exact CvL.pure rfl | (rw [hby, e]; first | exact cv_scr (S := { Tt with st := 0 }) (Cv.slc rfl (.inl rfl)) (Cv.slc rfl (.inl rfl)) | exact CvL.pure (encL_pure cY _) | exact CvL.pure (encL_pure cStr _))))⟩
            (try dsimp only); omega
        · (try simp only [au_std] at hc2); have hst1 : ¬ Tt.st = 1 := (by omega)
          refine VC.reg tab_ok [] rfl ?_
          iterate 2 refine VX.meek rfl ?_
          refine VX.nil ?_
          refine VC.cond rfl (fun hc4 => ?_) (fun hc4 => ?_)
          · (try simp only [au_std] at hc4); have hst : Tt.st = 2 := (by omega); have e : Tt.byte v = Tt.told v.toNat := (by unfold Scr.byte; rw [if_neg hst1, if_pos hst])
            refine VC.reg tab_ok [] rfl ?_
            refine VX.meek rfl ?_
            refine VX.callT rfl rfl (CallT.frame (hto) [0, 1, 2] rfl au_ci au_ci ?_)
            rintro _ _ ⟨rfl, rfl⟩
            refine frK au_co au_co ?_
            refine VX.nil ?_
            refine VC.exit ?_
            refine VC.regN tab_ok [] rfl ?_
            first | refine VX.add rfl rfl (by omega) ?_ | refine VX.meek rfl ?_
            refine VX.meek rfl ?_
            refine VX.nil ?_
            refine ⟨i + 1, by (try dsimp only); omega, ?_, (by refine ⟨[some 0, some 1, some 2, some 3], rfl, by first | trivial | decide, rfl, ?_, ?_⟩ <;> (repeat' first | exact trivial | exact CvB_n | exact CvB_d | exact CvB_o rfl | refine CvE_app ?_ ?_ | refine CvE_cons rfl ?_ ?_ | refine CvH_cons ?_ ?_ | refine CvB_c rfl ?_ | fail) <;> first | exact au_v | (first | exact CvL.pure rfl | (rw [hby, e]; first | exact cv_scr (S := Tt.told v.toNat) (Cv.slc rfl (.inl rfl)) (Cv.slc rfl (.inl rfl)) | exact CvL.pure (encL_pure cY _) | exact CvL.pure (encL_pure cStr _))))⟩
            (try dsimp only); omega
          · (try simp only [au_std] at hc4); have e : Tt.byte v = Tt.plain v := (by unfold Scr.byte; rw [if_neg hst1, if_neg (by omega)])
            refine VC.skip ?_
            refine VC.regN tab_ok [] rfl ?_
            refine VX.meek rfl ?_
            refine VX.callT rfl rfl (CallT.frame (hpl) [0, 1, 2] rfl au_ci au_ci ?_)
            rintro _ _ (⟨rfl, rfl⟩ | ⟨rfl, rfl⟩)
            · refine frK au_co au_co ?_
              refine VX.nil ?_
              refine VC.regN tab_ok [] rfl ?_
              first | refine VX.add rfl rfl (by omega) ?_ | refine VX.meek rfl ?_
              refine VX.meek rfl ?_
              refine VX.nil ?_
              refine ⟨i + 1, by (try dsimp only); omega, ?_, (by refine ⟨[some 0, some 1, some 2, some 3], rfl, by first | trivial | decide, rfl, ?_, ?_⟩ <;> (repeat' first | exact trivial | exact CvB_n | exact CvB_d | exact CvB_o rfl | refine CvE_app ?_ ?_ | refine CvE_cons rfl ?_ ?_ | refine CvH_cons ?_ ?_ | refine CvB_c rfl ?_ | fail) <;> first | exact au_v | (first | exact CvL.pure rfl | (rw [hby, e]; first | exact cv_scr (S := Tt.plain v) (Cv.slc rfl (.inl rfl)) (Cv.slc rfl (.inl rfl)) | exact CvL.pure (encL_pure cY _) | exact CvL.pure (encL_pure cStr _))))⟩
              (try dsimp only); omega
            · refine frK au_co au_co ?_
              refine VX.nil ?_
              refine VC.regN tab_ok [] rfl ?_
              first | refine VX.add rfl rfl (by omega) ?_ | refine VX.meek rfl ?_
              refine VX.meek rfl ?_
              refine VX.nil ?_
              refine ⟨i + 1, by (try dsimp only); omega, ?_, (by refine ⟨[some 0, some 1, some 4, some 3], rfl, by first | trivial | decide, rfl, ?_, ?_⟩ <;> (repeat' first | exact trivial | exact CvB_n | exact CvB_d | exact CvB_o rfl | refine CvE_app ?_ ?_ | refine CvE_cons rfl ?_ ?_ | refine CvH_cons ?_ ?_ | refine CvB_c rfl ?_ | fail) <;> first | exact au_v | (first | exact CvL.pure rfl | (rw [hby, e]; first | exact cv_scr (S := Tt.plain v) (Cv.slc rfl (.inl rfl)) (Cv.slc rfl (.inl rfl)) | exact CvL.pure (encL_pure cY _) | exact CvL.pure (encL_pure cStr _))))⟩
              (try dsimp only); omega
      · (try simp only [au_std] at hc1); obtain rfl : i = l.length := (by omega); rw [List.take_length]; generalize S.bytes l = Tt
        refine VC.exit ?_
        refine VC.reg tab_ok [] rfl ?_
        first | refine VX.meek rfl ?_ | refine VX.loadI rfl rfl au_l ?_ | refine VX.loadP rfl rfl rfl au_l ?_
        refine VX.store rfl rfl rfl rfl rfl au_sY rfl ?_
        refine VX.nil ?_
        refine VC.ret ?_
        exact ⟨trivial, _, rfl, Cv.agg (cv_scr (Cv.fslc0 ⟨rfl, by simp⟩ (CvL.pure (encL_pure cY _))) (Cv.fslc0 ⟨rfl, by simp⟩ (CvL.pure (encL_pure cStr _))))⟩
    · refine frK au_co au_co ?_
      refine VX.meek rfl ?_
      refine VX.store rfl rfl rfl rfl rfl au_sY rfl ?_
      refine VX.nil ?_
      refine VC.view ([(2, .ptr 0 0), (4, .ptr 3 0)]) ((scH S ++ [.c (scrC zeroScr NILs NILs)])) [1] rfl (by refine ⟨[some 0, some 2, some 3, some 1], rfl, by first | trivial | decide, rfl, ?_, ?_⟩ <;> (repeat' first | exact trivial | exact CvB_n | exact CvB_d | exact CvB_o rfl | refine CvE_app ?_ ?_ | refine CvE_cons rfl ?_ ?_ | refine CvH_cons ?_ ?_ | refine CvB_c rfl ?_ | fail) <;> first | exact au_v | (first | exact cv_scr (S := S) (Cv.slc rfl (.inl rfl)) (Cv.slc rfl (.inl rfl)) | exact CvL.pure (encL_pure cY _) | exact CvL.pure (encL_pure cStr _) | exact CvL.pure rfl)) ?_
      refine VC.seq ?_
      refine VC.label ?_
      refine VC.seq ?_
      refine VC.reg tab_ok [] rfl ?_
      refine VX.meek rfl ?_
      refine VX.meek (t := I64 (l.length : Nat)) rfl ?_
      refine VX.meek rfl ?_
      refine VX.nil ?_
      refine VC.block ?_
      refine VC.loopS (σ := Nat) (fun i => l.length - i) (fun i => i ≤ l.length) (fun i => [(21, I64 i), (2, .ptr 0 0), (4, .ptr 3 0)]) (fun i => scH (S.bytes (l.take i)) ++ [.c (scrC zeroScr NILs NILs)]) [1, 20] rfl (0) ?_ ?_ ?_
      · refine ⟨[some 0, some 1, some 2, some 3], rfl, by first | trivial | decide, rfl, ?_, ?_⟩ <;> (repeat' first | exact trivial | exact CvB_n | exact CvB_d | exact CvB_o rfl | refine CvE_app ?_ ?_ | refine CvE_cons rfl ?_ ?_ | refine CvH_cons ?_ ?_ | refine CvB_c rfl ?_ | fail) <;> first | exact au_v | (first | exact cv_scr (S := S) (Cv.slc rfl (.inl rfl)) (Cv.slc rfl (.inl rfl)) | exact CvL.pure (encL_pure cY _) | exact CvL.pure (encL_pure cStr _) | exact CvL.pure rfl)
      · (try dsimp only); omega
      rintro i hi
      refine VC.reg tab_ok [] rfl ?_
      refine VX.meek rfl ?_
      refine VX.nil ?_
      refine VC.seq ?_
      refine VC.cond rfl (fun hc1 => ?_) (fun hc1 => ?_)
      · (try simp only [au_std] at hc1); have hil : i < l.length := (by omega); have hby := bytes_take S l hil; have okT := ok.bytes (l.take i); have hmT : (S.bytes (l.take i)).most = 0 ∨ 2 ≤ (S.bytes (l.take i)).most := (by rw [scr_most]; exact hm)
        have hvl : l[i]? = some l[i] := List.getElem?_eq_getElem hil
        have hvt := (l[i]).toNat_lt
        have hpl := plain_t (S.bytes (l.take i)) l[i] okT hmT
        have hto := told_t (S.bytes (l.take i)) l[i].toNat okT
        generalize hv : l[i] = v at hby hvl hpl hto hvt
        generalize S.bytes (l.take i) = Tt at *
        refine VC.skip ?_
        refine VC.seq ?_
        refine VC.block ?_
        refine VC.reg tab_ok [] rfl ?_
        iterate 2 refine VX.meek rfl ?_
        refine VX.nil ?_
        refine VC.reg tab_ok [] rfl ?_
        iterate 2 refine VX.meek rfl ?_
        refine VX.idxY (m := i) rfl rfl rfl rfl rfl hvl ?_
        refine VX.meek rfl ?_
        refine VX.nil ?_
        refine VC.seq ?_
        refine VC.reg tab_ok [] rfl ?_
        refine VX.meek rfl ?_
        first | refine VX.meek rfl ?_ | refine VX.loadI rfl rfl au_l ?_ | refine VX.loadP rfl rfl rfl au_l ?_
        refine VX.nil ?_
        refine VC.block ?_
        refine VC.reg tab_ok [] rfl ?_
        iterate 2 refine VX.meek rfl ?_
        refine VX.nil ?_
        refine VC.cond rfl (fun hc2 => ?_) (fun hc2 => ?_)
        · (try simp only [au_std] at hc2); have hst : Tt.st = 1 := (by omega)
          refine VC.reg tab_ok [] rfl ?_
          refine VX.meek rfl ?_
          refine VX.store rfl rfl rfl rfl rfl au_sY rfl ?_
          refine VX.nil ?_
          refine VC.seq ?_
          refine VC.reg tab_ok [] rfl ?_
          iterate 2 refine VX.meek rfl ?_
          refine VX.nil ?_
          refine VC.cond rfl (fun hc3 => ?_) (fun hc3 => ?_)
          · (try simp only [au_std] at hc3); have e : Tt.byte v = { Tt with st := 2, n0 := 0, n1 := 0, num := 0 } := (by unfold Scr.byte; rw [if_pos hst, if_pos (by omega)])
            refine VC.reg tab_ok [] rfl ?_
            refine VX.meek rfl ?_
            refine VX.store rfl rfl rfl rfl rfl au_sY rfl ?_
            refine VX.nil ?_
            refine VC.reg tab_ok [] rfl ?_
            iterate 2 refine VX.meek rfl ?_
            refine VX.store rfl rfl rfl rfl rfl au_sY rfl ?_
            refine VX.nil ?_
            refine VC.regN tab_ok [] rfl ?_
            refine VX.meek rfl ?_
            refine VX.store rfl rfl rfl rfl rfl au_sY rfl ?_
            refine VX.nil ?_
            refine VC.exit ?_
            refine VC.regN tab_ok [] rfl ?_
            first | refine VX.add rfl rfl (by omega) ?_ | refine VX.meek rfl ?_
            refine VX.meek rfl ?_
            refine VX.nil ?_
            refine ⟨i + 1, by (try dsimp only); omega, ?_, (by refine ⟨[some 0, some 1, some 2, some 3], rfl, by first | trivial | decide, rfl, ?_, ?_⟩ <;> (repeat' first | exact trivial | exact CvB_n | exact CvB_d | exact CvB_o rfl | refine CvE_app ?_ ?_ | refine CvE_cons rfl ?_ ?_ | refine CvH_cons ?_ ?_ | refine CvB_c rfl ?_ | fail) <;> first | exact au_v | (first | exact CvL.pure rfl | (rw [hby, e]; first | exact cv_scr (S := { Tt with st := 2, n0 := 0, n1 := 0, num := 0 }) (Cv.slc rfl (.inl rfl)) (Cv.slc rfl (.inl rfl)) | exact CvL.pure (encL_pure cY _) | exact CvL.pure (encL_pure cStr _))))⟩
            (try dsimp only); omega
          · (try simp only [au_std] at hc3); have e : Tt.byte v = { Tt with st := 0 } := (by unfold Scr.byte; rw [if_pos hst, if_neg (by omega)])
            refine VC.skip ?_
            refine VC.exit ?_
            refine VC.regN tab_ok [] rfl ?_
            first | refine VX.add rfl rfl (by omega) ?_ | refine VX.meek rfl ?_
            refine VX.meek rfl ?_
            refine VX.nil ?_
            refine ⟨i + 1, by (try dsimp only); omega, ?_, (by refine ⟨[some 0, some 1, some 2, some 3], rfl, by first | trivial | decide, rfl, ?_, ?_⟩ <;> (repeat' first | exact trivial | exact CvB_n | exact CvB_d | exact CvB_o rfl | refine CvE_app ?_ ?_ | refine CvE_cons rfl ?_ ?_ | refine CvH_cons ?_ ?_ | refine CvB_c rfl ?_ | fail) <;> first | exact au_v | (first | exact CvL.pure rfl | (rw [hby, e]; first | exact cv_scr (S := { Tt with st := 0 }) (Cv.slc rfl (.inl rfl)) (Cv.slc rfl (.inl rfl)) | exact CvL.pure (encL_pure cY _) | exact CvL.pure (encL_pure cStr _))))⟩
            (try dsimp only); omega
        · (try simp only [au_std] at hc2); have hst1 : ¬ Tt.st = 1 := (by omega)
          refine VC.reg tab_ok [] rfl ?_
          iterate 2 refine VX.meek rfl ?_
          refine VX.nil ?_
          refine VC.cond rfl (fun hc4 => ?_) (fun hc4 => ?_)
          · (try simp only [au_std] at hc4); have hst : Tt.st = 2 := (by omega); have e : Tt.byte v = Tt.told v.toNat := (by unfold Scr.byte; rw [if_neg hst1, if_pos hst])
            refine VC.reg tab_ok [] rfl ?_
            refine VX.meek rfl ?_
            refine VX.callT rfl rfl (CallT.frame (hto) [0, 1, 2] rfl au_ci au_ci ?_)
            rintro _ _ ⟨rfl, rfl⟩
            refine frK au_co au_co ?_
            refine VX.nil ?_
            refine VC.exit ?_
            refine VC.regN tab_ok [] rfl ?_
            first | refine VX.add rfl rfl (by omega) ?_ | refine VX.meek rfl ?_
            refine VX.meek rfl ?_
            refine VX.nil ?_
            refine ⟨i + 1, by (try dsimp only); omega, ?_, (by refine ⟨[some 0, some 1, some 2, some 3], rfl, by first | trivial | decide, rfl, ?_, ?_⟩ <;> (repeat' first | exact trivial | exact CvB_n | exact CvB_d | exact CvB_o rfl | refine CvE_app ?_ ?_ | refine CvE_cons rfl ?_ ?_ | refine CvH_cons ?_ ?_ | refine CvB_c rfl ?_ | fail) <;> first | exact au_v | (first | exact CvL.pure rfl | (rw [hby, e]; first | exact cv_scr (S := Tt.told v.toNat) (Cv.slc rfl (.inl rfl)) (Cv.slc rfl (.inl rfl)) | exact CvL.pure (encL_pure cY _) | exact CvL.pure (encL_pure cStr _))))⟩
            (try dsimp only); omega
          · (try simp only [au_std] at hc4); have e : Tt.byte v = Tt.plain v := (by unfold Scr.byte; rw [if_neg hst1, if_neg (by omega)])
            refine VC.skip ?_
            refine VC.regN tab_ok [] rfl ?_
            refine VX.meek rfl ?_
            refine VX.callT rfl rfl (CallT.frame (hpl) [0, 1, 2] rfl au_ci au_ci ?_)
            rintro _ _ (⟨rfl, rfl⟩ | ⟨rfl, rfl⟩)
            · refine frK au_co au_co ?_
              refine VX.nil ?_
              refine VC.regN tab_ok [] rfl ?_
              first | refine VX.add rfl rfl (by omega) ?_ | refine VX.meek rfl ?_
              refine VX.meek rfl ?_
              refine VX.nil ?_
              refine ⟨i + 1, by (try dsimp only); omega, ?_, (by refine ⟨[some 0, some 1, some 2, some 3], rfl, by first | trivial | decide, rfl, ?_, ?_⟩ <;> (repeat' first | exact trivial | exact CvB_n | exact CvB_d | exact CvB_o rfl | refine CvE_app ?_ ?_ | refine CvE_cons rfl ?_ ?_ | refine CvH_cons ?_ ?_ | refine CvB_c rfl ?_ | fail) <;> first | exact au_v | (first | exact CvL.pure rfl | (rw [hby, e]; first | exact cv_scr (S := Tt.plain v) (Cv.slc rfl (.inl rfl)) (Cv.slc rfl (.inl rfl)) | exact CvL.pure (encL_pure cY _) | exact CvL.pure (encL_pure cStr _))))⟩
              (try dsimp only); omega
            · refine frK au_co au_co ?_
              refine VX.nil ?_
              refine VC.regN tab_ok [] rfl ?_
              first | refine VX.add rfl rfl (by omega) ?_ | refine VX.meek rfl ?_
              refine VX.meek rfl ?_
              refine VX.nil ?_
              refine ⟨i + 1, by (try dsimp only); omega, ?_, (by refine ⟨[some 0, some 1, some 4, some 3], rfl, by first | trivial | decide, rfl, ?_, ?_⟩ <;> (repeat' first | exact trivial | exact CvB_n | exact CvB_d | exact CvB_o rfl | refine CvE_app ?_ ?_ | refine CvE_cons rfl ?_ ?_ | refine CvH_cons ?_ ?_ | refine CvB_c rfl ?_ | fail) <;> first | exact au_v | (first | exact CvL.pure rfl | (rw [hby, e]; first | exact cv_scr (S := Tt.plain v) (Cv.slc rfl (.inl rfl)) (Cv.slc rfl (.inl rfl)) | exact CvL.pure (encL_pure cY _) | exact CvL.pure (encL_pure cStr _))))⟩
              (try dsimp only); omega
      · (try simp only [au_std] at hc1); obtain rfl : i = l.length := (by omega); rw [List.take_length]; generalize S.bytes l = Tt
        refine VC.exit ?_
        refine VC.reg tab_ok [] rfl ?_
        first | refine VX.meek rfl ?_ | refine VX.loadI rfl rfl au_l ?_ | refine VX.loadP rfl rfl rfl au_l ?_
        refine VX.store rfl rfl rfl rfl rfl au_sY rfl ?_
        refine VX.nil ?_
        refine VC.ret ?_
        exact ⟨trivial, _, rfl, Cv.agg (cv_scr (Cv.fslc0 ⟨rfl, by simp⟩ (CvL.pure (encL_pure cY _))) (Cv.fslc0 ⟨rfl, by simp⟩ (CvL.pure (encL_pure cStr _))))⟩
end
section
open Go.RowKit
set_option maxRecDepth 10000
def Scr.rowN (S : Scr) (y : Nat) : List UInt8 := (S.grid.drop (y * S.cols)).take S.cols
theorem Scr.Ok.row_len {S : Scr} (ok : S.Ok) {y : Nat} (h : y < S.rows) : y * S.cols + S.cols ≤ S.grid.length := by
  rw [ok.g, ← Nat.succ_mul, Nat.mul_comm S.cols]; exact Nat.mul_le_mul h (Nat.le_refl _)
theorem Scr.Ok.rowN_len {S : Scr} (ok : S.Ok) {y : Nat} (h : y < S.rows) : (S.rowN y).length = S.cols := by
  have := ok.row_len h
  unfold Scr.rowN
  rw [List.length_take, List.length_drop]; omega
theorem row_p (S : Scr) (y : Nat) (ok : S.Ok) (h : y < S.rows) : CallP Tryd.prog 20 [scrT S, I64 y] (strT (S.rowN y)) := by
  have h1 := ok.row_len h
  have h2 := ok.g2
  have h3 := ok.c1
  have h4 := ok.c2
  have h5 := ok.r2
  have hm1 : (y : Int) * (S.cols : Int) = ((y * S.cols : Nat) : Int) := (Int.natCast_mul y S.cols).symm
  have hm2 : ((y : Int) + 1) * (S.cols : Int) = (((y + 1) * S.cols : Nat) : Int) := by rw [Int.natCast_mul]; rfl
  have hsm : (y + 1) * S.cols = y * S.cols + S.cols := Nat.succ_mul _ _
  have hd : (encL cY S.grid).drop (y * S.cols * 1) = encL cY (S.grid.drop (y * S.cols)) := encL_drop cY S.grid (y * S.cols)
  have ht : (encL cY (S.grid.drop (y * S.cols))).take S.cols = encL cY (S.rowN y) := by
    have := encL_take cY (S.grid.drop (y * S.cols)) S.cols
    rw [cY_sz, Nat.mul_one] at this
    exact this
  have hl : S.cols ≤ (encL cY (S.grid.drop (y * S.cols))).length := by rw [encL_len, cY_sz, List.length_drop]; omega
  generalize S.rowN y = r at *
  refine CallP.intro2 au_pu au_pu ?_
  refine CallT.intro tab_ok Tryd.func20 rfl (by kernel_rfl) (Nat.le_of_ble_eq_true rfl) ?_
  refine VC.reg tab_ok [2] rfl ?_
  refine VX.newI rfl rfl ?_
  refine VX.meek rfl ?_
  refine VX.nil ?_
  refine VC.seq ?_
  refine VC.reg tab_ok [] rfl ?_
  iterate 3 refine VX.meek rfl ?_
  refine' VX.merge (d := 12) [_, _, _, _, _] rfl ?_ rfl ?_
  rotate_left
  · refine VX.guard rfl rfl (fun hb1_2 => ?_) (fun hb1_2 => ?_)
    · have ghb1_2 := hb1_2
      try simp only [au_std, Bool.not_true, Bool.not_false] at ghb1_2
      refine VX.meek rfl ?_
      refine VX.guardT rfl rfl hb1_2 ?_
      refine VX.meek rfl ?_
      refine VX.guardT rfl rfl hb1_2 ?_
      first | refine VX.meek rfl ?_ | refine VX.loadI rfl rfl au_l ?_ | refine VX.loadP rfl rfl rfl au_l ?_
      refine VX.guardT rfl rfl hb1_2 ?_
      refine VX.meek rfl ?_
      refine VX.pickO rfl (fun _ => rfl) ?_
      exact VX.nil ⟨rfl, rfl⟩
    · refine VX.guardF rfl rfl hb1_2 ?_
      refine VX.guardF rfl rfl hb1_2 ?_
      refine VX.guardF rfl rfl hb1_2 ?_
      exact VX.pickO rfl (fun h => absurd (h.symm.trans hb1_2) (by decide)) (VX.nil ⟨rfl, rfl⟩)
  refine VX.nil ?_
  refine VC.cond rfl (fun hc0 => ?_) (fun hc0 => ?_)
  · exact absurd hc0 (by simp; omega)
  · (try simp only [au_std] at hc0)
    refine VC.skip ?_
    refine VC.reg tab_ok [] rfl ?_
    refine VX.meek rfl ?_
    first | refine VX.meek rfl ?_ | refine VX.loadI rfl rfl au_l ?_ | refine VX.loadP rfl rfl rfl au_l ?_
    iterate 2 refine VX.meek rfl ?_
    first | refine VX.meek rfl ?_ | refine VX.loadI rfl rfl au_l ?_ | refine VX.loadP rfl rfl rfl au_l ?_
    refine VX.mul rfl rfl (by rw [hm1]; omega) ?_
    refine VX.meek rfl ?_
    first | refine VX.add rfl rfl (by omega) ?_ | refine VX.meek rfl ?_
    refine VX.meek rfl ?_
    first | refine VX.meek rfl ?_ | refine VX.loadI rfl rfl au_l ?_ | refine VX.loadP rfl rfl rfl au_l ?_
    refine VX.mul rfl rfl (by rw [hm2]; omega) ?_
    refine VX.slcI (p := y * S.cols) (r := (y + 1) * S.cols) rfl rfl rfl rfl rfl rfl rfl hm1 hm2 (by omega) (by omega) (by omega) ?_; rw [hd, show (y + 1) * S.cols - y * S.cols = S.cols from by omega]
    refine VX.strI rfl rfl rfl rfl rfl rfl rfl hl ht ?_
    refine VX.meek rfl ?_
    refine VX.nil ?_
    refine VC.ret ?_
    exact ⟨trivial, _, rfl, Cv.eq (by first | rfl | (simp [*]; done)) rfl⟩
theorem isClient_p (c : Int) : CallP Tryd.prog 67 [I64 c] (BL (decide (1 ≤ c) && decide (c ≤ 8))) := by
  refine CallP.intro2 au_pu au_pu ?_
  refine CallT.intro tab_ok Tryd.func67 rfl (by kernel_rfl) (Nat.le_of_ble_eq_true rfl) ?_
  refine VC.reg tab_ok [] rfl ?_
  refine VX.meek rfl ?_
  refine VX.nil ?_
  refine VC.reg tab_ok [] rfl ?_
  iterate 3 refine VX.meek rfl ?_
  refine' VX.merge (d := 8) [_, _, _] rfl ?_ rfl ?_
  rotate_left
  · refine VX.guard rfl rfl (fun hb1_2 => ?_) (fun hb1_2 => ?_)
    · have ghb1_2 := hb1_2
      try simp only [au_std, Bool.not_true, Bool.not_false] at ghb1_2
      refine VX.meek rfl ?_
      refine VX.guardT rfl rfl hb1_2 ?_
      refine VX.meek rfl ?_
      refine VX.pickA rfl (fun _ => rfl) ?_
      exact VX.nil ⟨rfl, rfl⟩
    · refine VX.guardF rfl rfl hb1_2 ?_
      exact VX.pickA rfl (fun h => absurd (h.symm.trans hb1_2) (by decide)) (VX.nil ⟨rfl, rfl⟩)
  refine VX.meek rfl ?_
  refine VX.nil ?_
  refine VC.ret ?_
  exact ⟨trivial, _, rfl, Cv.eq (by cases decide (1 ≤ c) <;> rfl) rfl⟩
theorem base_p (c : Nat) (h1 : 1 ≤ c) (h2 : c ≤ 8) : CallP Tryd.prog 36 [I64 c] (.tup [.v (.int .u32 ((c * 1048576 : Nat) : Int)), BL true]) := by
  have hi : CallP Tryd.prog 67 [I64 c] (BL true) := by
    have := isClient_p c
    rwa [show (decide (1 ≤ (c : Int)) && decide ((c : Int) ≤ 8)) = true from by simp; omega] at this
  have w32 : ∀ {n : Int}, 0 ≤ n ∧ n < 4294967296 → IntKind.u32.wrap n = n := fun {n} h => by show n.emod _ = n; exact Int.emod_eq_of_lt h.1 h.2
  refine CallP.intro2 au_pu au_pu ?_
  refine CallT.intro tab_ok Tryd.func36 rfl (by kernel_rfl) (Nat.le_of_ble_eq_true rfl) ?_
  refine VC.reg tab_ok [] rfl ?_
  iterate 2 refine VX.meek rfl ?_
  refine VX.nil ?_
  refine VC.seq ?_
  refine VC.reg tab_ok [] rfl ?_
  refine VX.meek rfl ?_
  refine VX.callP0 rfl rfl rfl (hi) ?_
  refine VX.meek rfl ?_
  refine VX.nil ?_
  refine VC.cond rfl (fun hc0 => ?_) (fun hc0 => ?_)
  · exact absurd hc0 (by decide)
  · (try simp only [au_std] at hc0)
    refine VC.skip ?_
    refine VC.reg tab_ok [] rfl ?_
    refine VX.meek rfl ?_
    refine VX.meek (t := .v (.int .u32 (c : Int))) (by show some (T.v (.int .u32 (IntKind.u32.wrap (c : Int))), (none : Option (Nat × List T))) = _; rw [w32 (by omega)]) ?_
    refine VX.meek (t := .v (.int .u32 ((c * 1048576 : Nat) : Int))) (by show some (T.v (.int .u32 (IntKind.u32.wrap ((c : Int) * 1048576))), (none : Option (Nat × List T))) = _; rw [w32 (by omega)]; rfl) ?_
    iterate 2 refine VX.meek rfl ?_
    refine VX.nil ?_
    refine VC.ret ?_
    exact ⟨trivial, _, rfl, Cv.eq (by first | rfl | (simp [*]; done)) rfl⟩
def sok (c : Int) : Bool := c == 13 || c == 8 || c == 9
def sby (c : Int) : Int := if c = 13 then 10 else if c = 8 ∨ c = 9 then c else 0
theorem special_p (c : Int) : CallP Tryd.prog 104 [I64 c] (.tup [U8 (sby c), BL (sok c)]) := by
  have w8 : c = 8 ∨ c = 9 → IntKind.u8.wrap c = c := fun h => by rcases h with rfl | rfl <;> rfl
  refine CallP.intro2 au_pu au_pu ?_
  refine CallT.intro tab_ok Tryd.func104 rfl (by kernel_rfl) (Nat.le_of_ble_eq_true rfl) ?_
  refine VC.reg tab_ok [] rfl ?_
  iterate 2 refine VX.meek rfl ?_
  refine VX.nil ?_
  refine VC.seq ?_
  refine VC.reg tab_ok [] rfl ?_
  refine VX.meek rfl ?_
  refine VX.nil ?_
  refine VC.block ?_
  refine VC.reg tab_ok [] rfl ?_
  iterate 2 refine VX.meek rfl ?_
  refine VX.nil ?_
  refine VC.cond rfl (fun hc0 => ?_) (fun hc0 => ?_)
  · (try simp only [au_std] at hc0); have e1 : sby c = 10 := (by unfold sby; rw [if_pos hc0]); have e2 : sok c = true := (by unfold sok; simp [hc0])
    refine VC.reg tab_ok [] rfl ?_
    iterate 2 refine VX.meek rfl ?_
    refine VX.nil ?_
    refine VC.ret ?_
    exact ⟨trivial, _, rfl, Cv.eq (by rw [e1, e2]; rfl) rfl⟩
  · (try simp only [au_std] at hc0)
    refine VC.seq ?_
    refine VC.reg tab_ok [] rfl ?_
    iterate 2 refine VX.meek rfl ?_
    refine VX.nil ?_
    refine VC.cond rfl (fun hc1 => ?_) (fun hc1 => ?_)
    · (try simp only [au_std] at hc1); have h89 : c = 8 ∨ c = 9 := .inl hc1
      refine VC.skip ?_
      refine VC.cond rfl (fun hc2 => ?_) (fun hc2 => ?_)
      · (try simp only [au_std] at hc2); have h89 : c = 8 ∨ c = 9 := (by first | assumption | exact .inr hc2); have e1 : sby c = c := (by unfold sby; rw [if_neg (by omega), if_pos h89]); have e2 : sok c = true := (by unfold sok; rcases h89 with h | h <;> simp [h])
        refine VC.reg tab_ok [] rfl ?_
        refine VX.meek rfl ?_
        refine VX.meek (t := U8 c) (by show some (T.v (.int .u8 (IntKind.u8.wrap c)), (none : Option (Nat × List T))) = _; rw [w8 h89]) ?_
        iterate 2 refine VX.meek rfl ?_
        refine VX.nil ?_
        refine VC.ret ?_
        exact ⟨trivial, _, rfl, Cv.eq (by rw [e1, e2]; rfl) rfl⟩
      · (try simp only [au_std] at hc0 hc1 hc2); have e1 : sby c = 0 := (by unfold sby; rw [if_neg (by omega), if_neg (by omega)]); have e2 : sok c = false := (by first | (exfalso; omega) | (unfold sok; simp [*]))
        refine VC.skip ?_
        refine VC.reg tab_ok [] rfl ?_
        iterate 2 refine VX.meek rfl ?_
        refine VX.nil ?_
        refine VC.ret ?_
        exact ⟨trivial, _, rfl, Cv.eq (by rw [e1, e2]; rfl) rfl⟩
    · (try simp only [au_std] at hc1); skip
      refine VC.regN tab_ok [] rfl ?_
      iterate 2 refine VX.meek rfl ?_
      refine VX.nil ?_
      refine VC.cond rfl (fun hc2 => ?_) (fun hc2 => ?_)
      · (try simp only [au_std] at hc2); have h89 : c = 8 ∨ c = 9 := (by first | assumption | exact .inr hc2); have e1 : sby c = c := (by unfold sby; rw [if_neg (by omega), if_pos h89]); have e2 : sok c = true := (by unfold sok; rcases h89 with h | h <;> simp [h])
        refine VC.reg tab_ok [] rfl ?_
        refine VX.meek rfl ?_
        refine VX.meek (t := U8 c) (by show some (T.v (.int .u8 (IntKind.u8.wrap c)), (none : Option (Nat × List T))) = _; rw [w8 h89]) ?_
        iterate 2 refine VX.meek rfl ?_
        refine VX.nil ?_
        refine VC.ret ?_
        exact ⟨trivial, _, rfl, Cv.eq (by rw [e1, e2]; rfl) rfl⟩
      · (try simp only [au_std] at hc0 hc1 hc2); have e1 : sby c = 0 := (by unfold sby; rw [if_neg (by omega), if_neg (by omega)]); have e2 : sok c = false := (by first | (exfalso; omega) | (unfold sok; simp [*]))
        refine VC.skip ?_
        refine VC.reg tab_ok [] rfl ?_
        iterate 2 refine VX.meek rfl ?_
        refine VX.nil ?_
        refine VC.ret ?_
        exact ⟨trivial, _, rfl, Cv.eq (by rw [e1, e2]; rfl) rfl⟩
def lok (c m : Int) : Bool := decide (32 ≤ c) && decide (c ≤ 126) && decide (0 ≤ m) && decide (m ≤ 1)
def lby (c m : Int) : Int := if lok c m = true then (if m = 1 ∧ 97 ≤ c ∧ c ≤ 122 then c - 32 else c) else 0
theorem letter_p (c m : Int) : CallP Tryd.prog 16 [I64 c, I64 m] (.tup [U8 (lby c m), BL (lok c m)]) := by
  have w8 : ∀ n : Int, 0 ≤ n ∧ n < 256 → IntKind.u8.wrap n = n := fun n h => wrapU h
  refine CallP.intro2 au_pu au_pu ?_
  refine CallT.intro tab_ok Tryd.func16 rfl (by kernel_rfl) (Nat.le_of_ble_eq_true rfl) ?_
  refine VC.reg tab_ok [] rfl ?_
  iterate 2 refine VX.meek rfl ?_
  refine VX.nil ?_
  refine VC.seq ?_
  refine VC.reg tab_ok [] rfl ?_
  iterate 3 refine VX.meek rfl ?_
  refine' VX.merge (d := 11) [_, _, _] rfl ?_ rfl ?_
  rotate_left
  · refine VX.guard rfl rfl (fun hb1_2 => ?_) (fun hb1_2 => ?_)
    · have ghb1_2 := hb1_2
      try simp only [au_std, Bool.not_true, Bool.not_false] at ghb1_2
      refine VX.meek rfl ?_
      refine VX.guardT rfl rfl hb1_2 ?_
      refine VX.meek rfl ?_
      refine VX.pickO rfl (fun _ => rfl) ?_
      exact VX.nil ⟨rfl, rfl⟩
    · refine VX.guardF rfl rfl hb1_2 ?_
      exact VX.pickO rfl (fun h => absurd (h.symm.trans hb1_2) (by decide)) (VX.nil ⟨rfl, rfl⟩)
  refine VX.meek rfl ?_
  refine' VX.merge (d := 15) [_, _, _] rfl ?_ rfl ?_
  rotate_left
  · refine VX.guard rfl rfl (fun hb1_6 => ?_) (fun hb1_6 => ?_)
    · have ghb1_6 := hb1_6
      try simp only [au_std, Bool.not_true, Bool.not_false] at ghb1_6
      refine VX.meek rfl ?_
      refine VX.guardT rfl rfl hb1_6 ?_
      refine VX.meek rfl ?_
      refine VX.pickO rfl (fun _ => rfl) ?_
      exact VX.nil ⟨rfl, rfl⟩
    · refine VX.guardF rfl rfl hb1_6 ?_
      exact VX.pickO rfl (fun h => absurd (h.symm.trans hb1_6) (by decide)) (VX.nil ⟨rfl, rfl⟩)
  refine VX.meek rfl ?_
  refine' VX.merge (d := 19) [_, _, _] rfl ?_ rfl ?_
  rotate_left
  · refine VX.guard rfl rfl (fun hb1_10 => ?_) (fun hb1_10 => ?_)
    · have ghb1_10 := hb1_10
      try simp only [au_std, Bool.not_true, Bool.not_false] at ghb1_10
      refine VX.meek rfl ?_
      refine VX.guardT rfl rfl hb1_10 ?_
      refine VX.meek rfl ?_
      refine VX.pickO rfl (fun _ => rfl) ?_
      exact VX.nil ⟨rfl, rfl⟩
    · refine VX.guardF rfl rfl hb1_10 ?_
      exact VX.pickO rfl (fun h => absurd (h.symm.trans hb1_10) (by decide)) (VX.nil ⟨rfl, rfl⟩)
  refine VX.nil ?_
  refine VC.cond rfl (fun hc0 => ?_) (fun hc0 => ?_)
  · (try simp only [au_std] at hc0); have e2 : lok c m = false := (by unfold lok; simp; omega); have e1 : lby c m = 0 := (by unfold lby; rw [e2]; rfl)
    refine VC.reg tab_ok [] rfl ?_
    iterate 2 refine VX.meek rfl ?_
    refine VX.nil ?_
    refine VC.ret ?_
    exact ⟨trivial, _, rfl, Cv.eq (by rw [e1, e2]; first | rfl | (show T.tup [T.v (.int .u8 (IntKind.u8.wrap _)), _] = _; rw [w8 _ (by omega)]; rfl)) rfl⟩
  · (try simp only [au_std] at hc0); have e2 : lok c m = true := (by unfold lok; simp; omega)
    refine VC.skip ?_
    refine VC.seq ?_
    refine VC.reg tab_ok [] rfl ?_
    iterate 3 refine VX.meek rfl ?_
    refine' VX.merge (d := 25) [_, _, _] rfl ?_ rfl ?_
    rotate_left
    · refine VX.guard rfl rfl (fun hb3_2 => ?_) (fun hb3_2 => ?_)
      · have ghb3_2 := hb3_2
        try simp only [au_std, Bool.not_true, Bool.not_false] at ghb3_2
        refine VX.meek rfl ?_
        refine VX.guardT rfl rfl hb3_2 ?_
        refine VX.meek rfl ?_
        refine VX.pickA rfl (fun _ => rfl) ?_
        exact VX.nil ⟨rfl, rfl⟩
      · refine VX.guardF rfl rfl hb3_2 ?_
        exact VX.pickA rfl (fun h => absurd (h.symm.trans hb3_2) (by decide)) (VX.nil ⟨rfl, rfl⟩)
    refine VX.meek rfl ?_
    refine' VX.merge (d := 29) [_, _, _] rfl ?_ rfl ?_
    rotate_left
    · refine VX.guard rfl rfl (fun hb3_6 => ?_) (fun hb3_6 => ?_)
      · have ghb3_6 := hb3_6
        try simp only [au_std, Bool.not_true, Bool.not_false] at ghb3_6
        refine VX.meek rfl ?_
        refine VX.guardT rfl rfl hb3_6 ?_
        refine VX.meek rfl ?_
        refine VX.pickA rfl (fun _ => rfl) ?_
        exact VX.nil ⟨rfl, rfl⟩
      · refine VX.guardF rfl rfl hb3_6 ?_
        exact VX.pickA rfl (fun h => absurd (h.symm.trans hb3_6) (by decide)) (VX.nil ⟨rfl, rfl⟩)
    refine VX.nil ?_
    refine VC.cond rfl (fun hc1 => ?_) (fun hc1 => ?_)
    · (try simp only [au_std] at hc1); have e1 : lby c m = c - 32 := (by unfold lby; rw [if_pos e2, if_pos (by omega)])
      refine VC.regN tab_ok [] rfl ?_
      refine VX.meek rfl ?_
      first | refine VX.sub rfl rfl (by omega) ?_ | refine VX.meek rfl ?_
      refine VX.meek rfl ?_
      refine VX.nil ?_
      refine VC.reg tab_ok [] rfl ?_
      refine VX.meek rfl ?_
      first | refine VX.meek rfl ?_ | refine VX.bytes tab_ok rfl rfl rfl rfl rfl rfl rfl rfl (by first | omega | (dsimp only; omega) | assumption) ?_
      iterate 2 refine VX.meek rfl ?_
      refine VX.nil ?_
      refine VC.ret ?_
      exact ⟨trivial, _, rfl, Cv.eq (by rw [e1, e2]; first | rfl | (show T.tup [T.v (.int .u8 (IntKind.u8.wrap _)), _] = _; rw [w8 _ (by omega)]; rfl)) rfl⟩
    · (try simp only [au_std] at hc1); have e1 : lby c m = c := (by unfold lby; rw [if_pos e2, if_neg (by omega)])
      refine VC.skip ?_
      refine VC.reg tab_ok [] rfl ?_
      refine VX.meek rfl ?_
      first | refine VX.meek rfl ?_ | refine VX.bytes tab_ok rfl rfl rfl rfl rfl rfl rfl rfl (by first | omega | (dsimp only; omega) | assumption) ?_
      iterate 2 refine VX.meek rfl ?_
      refine VX.nil ?_
      refine VC.ret ?_
      exact ⟨trivial, _, rfl, Cv.eq (by rw [e1, e2]; first | rfl | (show T.tup [T.v (.int .u8 (IntKind.u8.wrap _)), _] = _; rw [w8 _ (by omega)]; rfl)) rfl⟩
end
end Go.Proofs.YtjnomaiejmgedaaDoor
