/-
  The proof's lemmas, part 3.
-/
import Derived.Test.YtofmninnienjhaaGreatDoorEdmb
import Derived.ChangeSlices
import Derived.ProofKit
import Derived.OpenShut
import Derived.Lib.Space
import Derived.Lib.LaidTab
import Derived.Test.YtofmninnienjhaaGreatDoorProg
import Derived.KernelRfl
import Derived.Test.YtofmninnienjhaaGreatDoorShelfC
import Derived.Lib.Bytealg
namespace Go.Proofs.YtofmninnienjhaaGreatDoor
set_option linter.unusedSimpArgs false
set_option linter.unusedVariables false
section
open Go.RowKit
def seenL (Hm F : Hp) : Prop := Hm.length ≤ F.length ∧ ∀ b, blkH Hm b ≠ .d → blkH Hm b = blkH F b
def WrOp [Dr] (P : Program) (tab : Tab) (o : Oper) (E : Env) (F F1 : Hp) (t : T) : Prop :=
  (∃ f args ats g us vs ts, o.op = .call ⟨.value f, args, ats⟩ ∧ E.opd f = some (.clo g us vs) ∧ optL E.opd args.toList = some ts ∧ CallT P g (us ++ ts ++ vs) F (fun u H' => u = t ∧ H' = F1)) ∨
  (∃ x y t1 t2 ta tb, o.op = .call ⟨.builtin .append, #[x, y], #[t1, t2]⟩ ∧ E.opd x = some ta ∧ E.opd y = some tb ∧ mAppend tab F t1 t2 ta tb = some (t, F1)) ∨
  (∃ p : Nat × List T, opM tab (lookH F) F.length E.opd o.op = some (t, some p) ∧ F1 = F ++ [.c p.2]) ∨
  (∃ t0 a x ta tx, o.op = .store t0 a x ∧ E.opd a = some ta ∧ E.opd x = some tx ∧ mStore tab F t0 ta tx = some F1 ∧ t = .v undef)
def LkOp [Dr] (P : Program) (o : Oper) (E : Env) (Hm : Hp) (t : T) : Prop :=
  ∃ f args ats g us vs ts, o.op = .call ⟨.value f, args, ats⟩ ∧ E.opd f = some (.clo g us vs) ∧ optL E.opd args.toList = some ts ∧ ∀ G, seenL Hm G → CallT P g (us ++ ts ++ vs) G (fun u H' => u = t ∧ H' = G)
inductive RunC [Dr] (P : Program) (tab : Tab) (im : List Nat) (ops : Array Oper) (Hm : Hp) : List Oper → Env → Hp → List Stp → List Hp → List Bool → Env → Hp → Prop
  | nil (E : Env) (F : Hp) : RunC P tab im ops Hm [] E F [] [] [] E F
  | one {o : Oper} {l : List Oper} {E : Env} {F : Hp} {s : Stp} {r : List Stp} {fs : List Hp} {ws : List Bool} {E' : Env} {F' : Hp} (h : StpOk P tab im ops o E Hm s) (hn : s.nb = none)
      (k : RunC P tab im ops Hm l (E.put o.dst s.t) F r fs ws E' F') : RunC P tab im ops Hm (o :: l) E F (s :: r) fs (false :: ws) E' F'
  | look {o : Oper} {l : List Oper} {E : Env} {F : Hp} {t : T} {r : List Stp} {fs : List Hp} {ws : List Bool} {E' : Env} {F' : Hp} (hg : o.guard = none) (ho : LkOp P o E Hm t)
      (k : RunC P tab im ops Hm l (E.put o.dst t) F r fs ws E' F') : RunC P tab im ops Hm (o :: l) E F (⟨t, none⟩ :: r) fs (false :: ws) E' F'
  | call {o : Oper} {l : List Oper} {E : Env} {F F1 : Hp} {t : T} {r : List Stp} {fs : List Hp} {ws : List Bool} {E' : Env} {F' : Hp} (hg : o.guard = none) (ho : WrOp P tab o E F F1 t)
      (hs : seenL Hm F1) (k : RunC P tab im ops Hm l (E.put o.dst t) F1 r fs ws E' F') : RunC P tab im ops Hm (o :: l) E F (⟨t, none⟩ :: r) (F1 :: fs) (true :: ws) E' F'
def cntB (ws : List Bool) (k : Nat) : Nat := (ws.take k).countP (fun x => x)
def StpC [Dr] (P : Program) (tab : Tab) (im : List Nat) (ops : Array Oper) (Hm : Hp) (o : Oper) (E : Env) (F F1 : Hp) (s : Stp) : Bool → Prop
  | false => StpOk P tab im ops o E Hm s ∨ (o.guard = none ∧ LkOp P o E Hm s.t)
  | true => o.guard = none ∧ WrOp P tab o E F F1 s.t
theorem runC_at [Dr] {P : Program} {tab : Tab} {im : List Nat} {ops : Array Oper} {Hm : Hp} {l : List Oper} {E : Env} {F : Hp} {r : List Stp} {fs : List Hp} {ws : List Bool} {E' : Env} {F' : Hp} (h : RunC P tab im ops Hm l E F r fs ws E' F') (hsn : seenL Hm F) :
    r.length = l.length ∧ ws.length = l.length ∧ fs.length = cntB ws ws.length ∧ E' = envAt l r E l.length ∧ (∀ (j : Nat) (G : Hp), (F :: fs)[j]? = some G → seenL Hm G) ∧ (F :: fs)[fs.length]? = some F' ∧ (∀ s ∈ r, s.nb = none) ∧
      ∀ (k : Nat) (o : Oper) (s : Stp) (w : Bool), l[k]? = some o → r[k]? = some s → ws[k]? = some w → ∃ G G1 : Hp, (F :: fs)[cntB ws k]? = some G ∧ (w = true → (F :: fs)[cntB ws k + 1]? = some G1) ∧ StpC P tab im ops Hm o (envAt l r E k) G G1 s w := by
  induction h with
  | nil E F => exact ⟨rfl, rfl, rfl, rfl, fun j G hj => by cases j with | zero => simp at hj; subst hj; exact hsn | succ j => simp at hj, rfl, by simp, fun k o s w h => by simp at h⟩
  | @one o l E F s r fs ws E' F' h hn k ih =>
    obtain ⟨h1, h2, h3, h4, h5, h6, h7, h8⟩ := ih hsn
    have hc : ∀ k, cntB (false :: ws) (k + 1) = cntB ws k := fun k => by simp [cntB]
    refine ⟨by simp [h1], by simp [h2], by rw [List.length_cons, hc]; exact h3, h4, h5, h6, fun s' hs' => ?_, fun j o' s' w ho hs' hw => ?_⟩
    · rcases List.mem_cons.1 hs' with rfl | hs'
      · exact hn
      · exact h7 s' hs'
    · cases j with
      | zero => simp at ho hs' hw; subst ho hs' hw; exact ⟨F, F, by simp [cntB], fun hh => (by cases hh), .inl h⟩
      | succ j =>
        obtain ⟨G, G1, g1, g2, g3⟩ := h8 j o' s' w (by simpa using ho) (by simpa using hs') (by simpa using hw)
        exact ⟨G, G1, by rw [hc]; exact g1, by rw [hc]; exact g2, g3⟩
  | @look o l E F t r fs ws E' F' hg ho k ih =>
    obtain ⟨h1, h2, h3, h4, h5, h6, h7, h8⟩ := ih hsn
    have hc : ∀ k, cntB (false :: ws) (k + 1) = cntB ws k := fun k => by simp [cntB]
    refine ⟨by simp [h1], by simp [h2], by rw [List.length_cons, hc]; exact h3, h4, h5, h6, fun s' hs' => ?_, fun j o' s' w ho hs' hw => ?_⟩
    · rcases List.mem_cons.1 hs' with rfl | hs'
      · rfl
      · exact h7 s' hs'
    · cases j with
      | zero => simp at ho hs' hw; subst ho hs' hw; exact ⟨F, F, by simp [cntB], fun hh => (by cases hh), .inr ⟨hg, ho⟩⟩
      | succ j =>
        obtain ⟨G, G1, g1, g2, g3⟩ := h8 j o' s' w (by simpa using ho) (by simpa using hs') (by simpa using hw)
        exact ⟨G, G1, by rw [hc]; exact g1, by rw [hc]; exact g2, g3⟩
  | @call o l E F F1 t r fs ws E' F' hg ho hs k ih =>
    obtain ⟨h1, h2, h3, h4, h5, h6, h7, h8⟩ := ih hs
    have hc : ∀ k, cntB (true :: ws) (k + 1) = cntB ws k + 1 := fun k => by simp [cntB]
    refine ⟨by simp [h1], by simp [h2], by rw [List.length_cons, List.length_cons, hc]; omega, h4, fun j G hj => ?_, by simpa using h6, fun s' hs' => ?_, fun j o' s' w ho' hs' hw => ?_⟩
    · cases j with
      | zero => simp at hj; subst hj; exact hsn
      | succ j => exact h5 j G (by simpa using hj)
    · rcases List.mem_cons.1 hs' with rfl | hs'
      · rfl
      · exact h7 s' hs'
    · cases j with
      | zero => simp at ho' hs' hw; subst ho' hs' hw; exact ⟨F, F1, by simp [cntB], fun _ => by simp [cntB], hg, ho⟩
      | succ j =>
        obtain ⟨G, G1, g1, g2, g3⟩ := h8 j o' s' w (by simpa using ho') (by simpa using hs') (by simpa using hw)
        refine ⟨G, G1, by rw [hc]; simpa using g1, fun hh => by rw [hc]; simpa using g2 hh, ?_⟩
        exact g3
section
variable {z : Bool} {P : Program} {tab : Tab} {n m kb lb : Nat} {l : List Oper} {E : Env} {Hm : Hp} {Fs : List Hp} {r : List Stp} {ws : List Bool} {X0 : Nat → Prop} {M0 : Mp} {im : List Nat}
structure JdC [Dr] (n kb : Nat) (pre : List Oper) (r : List Stp) (Fs : List Hp) (ws : List Bool) (E : Env) (X0 : Nat → Prop) (j : Nat) (L : Nat → Prop) (a : Act) (M : Mp) : Prop where
  sim : ∃ G, Fs[j]? = some G ∧ SimH G X0 M
  slot : ∀ k o s d, pre[k]? = some o → r[k]? = some s → L k → o.dst = some d → ∃ u, a.tmps[d]? = some u ∧ Rep M s.t u
  old : ∀ d t, E.get d = some t → (∀ k o, pre[k]? = some o → L k → o.dst ≠ some d) → ∃ u, a.tmps[d]? = some u ∧ Rep M t u
  sz : a.tmps.size = n
  df : Marks kb a.defers M
  ge : kb ≤ M.w.heap.size
  cnt : ∀ k, ws[k]? = some true → (L k ↔ cntB ws k < j)
structure RunCF [Dr] (P : Program) (tab : Tab) (im : List Nat) (l : List Oper) (m : Nat) (E : Env) (Hm : Hp) (r : List Stp) (Fs : List Hp) (ws : List Bool) : Prop where
  rl : r.length = (l.take m).length
  wl : ws.length = (l.take m).length
  nb : ∀ s ∈ r, s.nb = none
  sn : ∀ (j : Nat) (G : Hp), Fs[j]? = some G → seenL Hm G
  st : ∀ (k : Nat) (o : Oper) (s : Stp) (w : Bool), (l.take m)[k]? = some o → r[k]? = some s → ws[k]? = some w → ∃ G G1 : Hp, Fs[cntB ws k]? = some G ∧ (w = true → Fs[cntB ws k + 1]? = some G1) ∧ StpC P tab im l.toArray Hm o (envAt (l.take m) r E k) G G1 s w
  /-- calls keep the text's order -/
  ch : ∀ k j, k < m → j < k → ws[k]? = some true → ws[j]? = some true → ((masks l []).getD k 0).testBit j = true
theorem cntB_pos {ws : List Bool} {j : Nat} : ∀ {k : Nat}, j < cntB ws k → ∃ k', k' < k ∧ ws[k']? = some true ∧ cntB ws k' = j
  | 0, h => by simp [cntB] at h
  | k + 1, h => by
    by_cases hk : j < cntB ws k
    · obtain ⟨k', h1, h2⟩ := cntB_pos hk
      exact ⟨k', by omega, h2⟩
    · cases hw : ws[k]? with
      | none =>
        have hl := List.getElem?_eq_none_iff.1 hw
        unfold cntB at h hk
        rw [List.take_of_length_le (by omega)] at h hk
        omega
      | some x =>
        have e : ws.take (k + 1) = ws.take k ++ [x] := by rw [List.take_add_one, hw]; rfl
        unfold cntB at h hk
        rw [e, List.countP_append] at h
        cases x with
        | false => simp at h; omega
        | true =>
          simp at h
          exact ⟨k, Nat.lt_succ_self _, hw, by unfold cntB; omega⟩
theorem cntB_mono {ws : List Bool} {k k' : Nat} (h : k < k') (hw : ws[k]? = some true) : cntB ws k < cntB ws k' := by
  have e1 : cntB ws (k + 1) = cntB ws k + 1 := by
    unfold cntB
    rw [List.take_add_one, hw, List.countP_append]; simp
  have e2 : cntB ws (k + 1) ≤ cntB ws k' := by
    unfold cntB
    exact (List.take_sublist_take_left (by omega)).countP_le
  omega
theorem JdC.read [Dr] {L : Nat → Prop} {a : Act} {M : Mp} {j0 : Nat} (hO : OrdB l m) (hr : r.length = (l.take m).length) (h : JdC n kb (l.take m) r Fs ws E X0 j0 L a M) (hc : Closed l L) {k : Nat} {o : Oper} (ho : (l.take m)[k]? = some o) (hk : ¬ L k) (hpre : ∀ e ∈ o.after, Region.binds .any e = true → L e.on)
    {d : Nat} {t : T} (hd : d ∈ readsOf l.toArray o) (ht : (envAt (l.take m) r E k).get d = some t) : ∃ u, a.tmps[d]? = some u ∧ Rep M t u := by
  have hkl : k < (l.take m).length := (List.getElem?_eq_some_iff.1 ho).1
  have hol : l[k]? = some o := by rw [List.getElem?_take] at ho; split at ho; exact ho; cases ho
  have hdis : ∀ (i j : Nat) (oi oj : Oper), (l.take m)[i]? = some oi → (l.take m)[j]? = some oj → i ≠ j → ∀ d, oi.dst = some d → oj.dst ≠ some d := fun i j oi oj hi hj hij d hdi => (hO.pair j oj i oi hj hi hij d hdi).1
  obtain ⟨g1, g2⟩ := env_get (E := E) (d := d) hr (Nat.le_of_lt hkl) hdis
  by_cases hw : ∃ j oj, j < k ∧ (l.take m)[j]? = some oj ∧ oj.dst = some d
  · obtain ⟨j, oj, hj, hoj, hdj⟩ := hw
    have hs : r[j]? = some r[j] := List.getElem?_eq_getElem (by omega)
    rw [g1 j oj _ hj hoj hs hdj] at ht
    injection ht with ht; subst ht
    have hm := (hO.pair k o j oj ho hoj (by omega) d hdj).2 hd
    rw [if_pos hj] at hm
    exact h.slot j oj _ d hoj hs (mask_next hO.back hc hol hpre hm) hdj
  · rw [g2 fun j oj hj hoj hdj => hw ⟨j, oj, hj, hoj, hdj⟩] at ht
    refine h.old d t ht fun j oj hoj hLj hdj => ?_
    by_cases hjk : j = k
    · subst hjk; exact hk hLj
    · have hm := (hO.pair k o j oj ho hoj hjk d hdj).2 hd
      by_cases hlt : j < k
      · exact hw ⟨j, oj, hlt, hoj, hdj⟩
      · rw [if_neg hlt] at hm
        exact hk (mask_listed hO.back hc j hLj k hm)
theorem JdC.next [Dr] {L : Nat → Prop} {a : Act} {M M' : Mp} {j j' : Nat} (hO : OrdB l m) (h : JdC n kb (l.take m) r Fs ws E X0 j L a M) {k : Nat} {o : Oper} {s : Stp} {u : Value} (ho : (l.take m)[k]? = some o) (hs : r[k]? = some s) (hk : ¬ L k) (hd : ∀ d, o.dst = some d → d < n)
    (hE : Evo X0 M M') (hS : ∃ G, Fs[j']? = some G ∧ SimH G X0 M') (hr : Rep M' s.t u)
    (hcnt : ∀ k', ws[k']? = some true → ((L k' ∨ k' = k) ↔ cntB ws k' < j')) : JdC n kb (l.take m) r Fs ws E X0 j' (fun i => L i ∨ i = k) (a.put o.dst u) M' := by
  have keep : ∀ d v, o.dst ≠ some d → a.tmps[d]? = some v → (a.put o.dst u).tmps[d]? = some v := fun d v hne hv => by
    cases hod : o.dst with
    | none => exact hv
    | some d' => simp only [Act.put]; rw [Array.getElem?_setIfInBounds_ne (fun e => hne (by rw [hod, e]))]; exact hv
  refine ⟨hS, fun j oj sj d hoj hsj hL hdj => ?_, fun d t ht hno => ?_, ?_, ?_, Nat.le_trans h.ge hE.size, hcnt⟩
  · by_cases hjk : j = k
    · subst hjk
      rw [ho] at hoj; rw [hs] at hsj
      injection hoj with hoj; injection hsj with hsj; subst hoj hsj
      refine ⟨u, ?_, hr⟩
      rw [hdj]
      simp [Act.put, h.sz, hd d hdj]
    · obtain ⟨v, h1, h2⟩ := h.slot j oj sj d hoj hsj (hL.resolve_right hjk) hdj
      exact ⟨v, keep d v (hO.pair k o j oj ho hoj hjk d hdj).1 h1, Rep.stays hE.stays _ _ h2⟩
  · obtain ⟨v, h1, h2⟩ := h.old d t ht fun j oj hoj hL => hno j oj hoj (.inl hL)
    exact ⟨v, keep d v (hno k o ho (.inr rfl)) h1, Rep.stays hE.stays _ _ h2⟩
  · cases o.dst <;> simp [Act.put, h.sz]
  · cases o.dst <;> exact h.df.evo hE
theorem JdC.step [Dr] (hT : TabOk P tab) (hO : OrdB l m) (hF : RunCF P tab im l m E Hm r Fs ws)
    {L : Nat → Prop} {a : Act} {M : Mp} {j : Nat} (h : JdC n kb (l.take m) r Fs ws E X0 j L a M) (hc : Closed l L) {k : Nat} {o : Oper} (ho : (l.take m)[k]? = some o) (hk : ¬ L k) (hpre : ∀ e ∈ o.after, Region.binds .any e = true → L e.on) (hd : ∀ d, o.dst = some d → d < n)
    {r0 : Option Nat} {Q : Exit → Act → World → Prop} {K : Act → World → Prop} (hK : ∀ a' M' j', Evo X0 M M' → JdC n kb (l.take m) r Fs ws E X0 j' (fun i => L i ∨ i = k) a' M' → K a' M'.w) : wpOpIn (FW r0) 0 P l.toArray Q k K a M.w := by
  have hr := hF.rl
  have hkl : k < (l.take m).length := (List.getElem?_eq_some_iff.1 ho).1
  have hol : l[k]? = some o := by rw [List.getElem?_take] at ho; split at ho; exact ho; cases ho
  have hkm : k < m := by rw [List.length_take] at hkl; omega
  obtain ⟨s, hs'⟩ : ∃ x, r[k]? = some x := ⟨_, List.getElem?_eq_getElem (by omega)⟩
  obtain ⟨w, hw'⟩ : ∃ x, ws[k]? = some x := ⟨_, List.getElem?_eq_getElem (by rw [hF.wl]; omega)⟩
  obtain ⟨G, G1, hG, hG1, hstp⟩ := hF.st k o s w ho hs' hw'
  have hnb := hF.nb s (List.mem_of_getElem? hs')
  have hrd := fun (d : Nat) (t : T) => h.read hO hr hc ho hk hpre (d := d) (t := t)
  have hop : ∀ x ∈ o.op.operands.toList, ∀ t, (envAt (l.take m) r E k).opd x = some t → Rep M t (a.eval x) := by
    intro x hx t ht
    cases x with
    | tmp d =>
      obtain ⟨u, h1, h2⟩ := hrd d t (by simp only [readsOf, Oper.looksAt, List.mem_append, List.mem_filterMap]; exact .inl ⟨.tmp d, hx, rfl⟩) ht
      have : a.eval (.tmp d) = u := by show a.tmps.getD d undef = u; simp [h1]
      rw [this]; exact h2
    | const v => simp only [Env.opd] at ht; injection ht with ht; subst ht; exact rep_ofV v
    | func f => simp only [Env.opd] at ht; injection ht with ht; subst ht; exact ⟨[], [], rfl, rfl, rfl⟩
    | global g => simp only [Env.opd] at ht; injection ht with ht; subst ht; exact rfl
  unfold wpOpIn
  simp only [List.getElem?_toArray, hol]
  cases w with
  | true =>
    obtain ⟨hg, hwr⟩ := hstp
    have hw : Region.wanted o (yielded l.toArray a.tmps) = true := by simp [Region.wanted, hg]
    rw [hw, if_pos rfl]
    have hij : cntB ws k = j := by
      have h1 : ¬ cntB ws k < j := fun hh => hk ((h.cnt k hw').2 hh)
      refine Nat.le_antisymm (Nat.le_of_not_lt fun hh => ?_) (by omega)
      obtain ⟨k', q1, q2, q3⟩ := cntB_pos hh
      have hL := mask_next hO.back hc hol hpre (hF.ch k k' hkm q1 hw' q2)
      have := (h.cnt k' q2).1 hL
      omega
    obtain ⟨G', hG', hS⟩ := h.sim
    rw [hij] at hG
    rw [hG] at hG'; injection hG' with hG'; subst hG'
    have hg1 := hG1 rfl
    rw [hij] at hg1
    have hcn2 : ∀ k', ws[k']? = some true → ((L k' ∨ k' = k) ↔ cntB ws k' < j + 1) := fun k2' hw2 => by
      rw [h.cnt k2' hw2]
      constructor
      · rintro (q1 | rfl) <;> omega
      · intro hh
        by_cases h2 : cntB ws k2' < j
        · exact .inl h2
        · refine .inr ?_
          rcases Nat.lt_trichotomy k2' k with q1 | q1 | q1
          · have := cntB_mono q1 hw2; omega
          · exact q1
          · have := cntB_mono q1 hw'; omega
    rcases hwr with ⟨f, args, ats, g, us', vs', ts, hoc, hf, hts, hgo, hcall⟩ | ⟨x, y, t1, t2, ta, tb, hoc, hx, hy, happ⟩ | ⟨p, hm, rfl⟩ | ⟨t0, x, y, ta, tx, hoc, hx, hy, hst, hun⟩
    · have hnd : ∀ c, o.op ≠ .defer c := by rw [hoc]; simp
      refine wpIn_of hnd ?_
      obtain ⟨dst, op, ty, pos, after, guard⟩ := o
      simp only at hoc hop hd
      subst hoc
      obtain ⟨us, vs, e1, r1, r2⟩ := hop f (by simp [Op.operands, Call.operands]) _ hf
      have r3 := optL_ok (M := M) (ρ' := a.eval) _ _ (fun x hx t ht => hop x (by simp [Op.operands, Call.operands]; exact .inr (by simpa using hx)) t ht) hts
      have hrr : (execOp a.eval ⟨dst, .call ⟨.value f, args, ats⟩, ty, pos, after, guard⟩).run P M.w = .ok (.enter g (us ++ args.toList.map a.eval ++ vs).toArray) M.w := by
        simp only [execOp, resolve, Sem.run_bind, e1, Deferred.ofValue, Sem.run_pure, Result.andThen_ok, invoke]
        rw [run_goFunc _ _ _ hgo, ← map_arr]
        simp
      rw [hrr]
      refine ⟨fun hh => (by cases hh), callsIn_wide.2 ((hcall X0 M _ hS (RepL.append (RepL.append r1 r3) r2)).mono ?_)⟩
      rintro e w' ⟨u, t, H', M', rfl, rfl, ⟨rfl, rfl⟩, k2, k3, k4⟩
      exact hK _ M' (j + 1) k2 (h.next hO ho hs' hk hd k2 ⟨_, hg1, k3⟩ k4 hcn2)
    · have hnd : ∀ c, o.op ≠ .defer c := by rw [hoc]; simp
      refine wpIn_of hnd ?_
      obtain ⟨dst, op, ty, pos, after, guard⟩ := o
      simp only at hoc hop hd
      subst hoc
      have r1 := hop x (by simp [Op.operands, Call.operands]) _ hx
      have r2 := hop y (by simp [Op.operands, Call.operands]) _ hy
      obtain ⟨u, M', k1, k2, k3, k4⟩ := mAppend_ok (ty := ty) hT hS r1 r2 happ
      have hrr : (execOp a.eval ⟨dst, .call ⟨.builtin .append, #[x, y], #[t1, t2]⟩, ty, pos, after, guard⟩).run P M.w = .ok (.value u) M'.w := by simp [execOp, resolve, invoke, builtin, k1]
      rw [hrr]
      exact hK _ M' (j + 1) k2 (h.next hO ho hs' hk hd k2 ⟨_, hg1, k3⟩ k4 hcn2)
    · have hnd : ∀ c, o.op ≠ .defer c := opM_op hm
      refine wpIn_of hnd ?_
      have hmk := opM_ok (M := M) (ρ' := a.eval) hT hS.look hop hm
      obtain ⟨e, cs⟩ := p
      obtain ⟨u, a', h1, h2, h3⟩ := hmk
      rw [h1]
      obtain ⟨Ev, S, hsh⟩ := hS.new (nx := G.length) (fun hh => Nat.lt_irrefl _ hh) (w := { M.w with heap := M.w.heap.push (.cells a' e) }) rfl rfl ⟨rfl, fun _ => Nat.le_refl _⟩ rfl (fun j _ hj => by simp at hj) h2
      exact hK _ (newM M G.length _) (j + 1) Ev (h.next hO ho hs' hk hd Ev ⟨_, hg1, SimH.push S⟩ (h3 _ (if_pos rfl) hsh) hcn2)
    · have hnd : ∀ c, o.op ≠ .defer c := by rw [hoc]; simp
      refine wpIn_of hnd ?_
      obtain ⟨dst, op, ty, pos, after, guard⟩ := o
      simp only at hoc hop hd
      subst hoc
      have r1 := hop x (by simp [Op.operands]) _ hx
      have r2 := hop y (by simp [Op.operands]) _ hy
      obtain ⟨M', k1, k2, k3⟩ := mStore_ok hT hS r1 r2 hst
      have hrr : (execOp a.eval ⟨dst, .store t0 x y, ty, pos, after, guard⟩).run P M.w = .ok .skip M'.w := by simp [execOp, k1]
      rw [hrr]
      exact hK _ M' (j + 1) k2 (h.next hO ho hs' hk hd k2 ⟨_, hg1, k3⟩ (u := undef) (by rw [hun]; rfl) hcn2)
  | false =>
    have hcn : ∀ k', ws[k']? = some true → ((L k' ∨ k' = k) ↔ cntB ws k' < j) := fun k' hwk => by
      rw [← h.cnt k' hwk]
      exact ⟨fun hh => hh.resolve_right (fun e => by subst e; rw [hw'] at hwk; injection hwk with hwk; cases hwk), Or.inl⟩
    obtain ⟨G', hG', hS⟩ := h.sim
    have hsn := hF.sn j G' hG'
    have hlook : LookAt M (lookH Hm) := by
      intro b B O cells hb hcc
      refine Sim.look hS b B O cells hb ?_
      rw [lookH_c] at hcc
      rw [cells_some, ← hsn.2 b (by rw [hcc]; simp)]; exact hcc
    have hgd : ∀ g want d b, o.guard = some (g, want) → (l.toArray[g]?).bind (·.dst) = some d → (envAt (l.take m) r E k).get d = some (.v (.bool b)) → yielded l.toArray a.tmps g = some b := by
      intro g want d b hg hgd hb
      have hgd' : (l[g]?.bind fun x => x.dst) = some d := by simpa using hgd
      obtain ⟨u, h1, h2⟩ := hrd d _ (by simp [readsOf, Oper.looksAt, hg]; exact .inr hgd') hb
      obtain rfl := h2
      simp [yielded, hgd', h1]
    rcases hstp with (⟨h1, h2, g, want, d, x, hg, hgdst, hb, hne⟩ | ⟨hg, hst⟩) | ⟨hg, f, args, ats, g, us', vs', ts, hoc, hf, hts, hcall⟩
    · have hw : Region.wanted o (yielded l.toArray a.tmps) = false := by
        have hgd' : (l[g]?.bind fun x => x.dst) = some d := by simpa using hgdst
        obtain ⟨u, q1, q2⟩ := hrd d _ (by simp [readsOf, Oper.looksAt, hg]; exact .inr hgd') hb
        obtain rfl := q2
        have hy : yielded l.toArray a.tmps g = match u with | .bool b => some b | _ => none := by simp only [yielded, List.getElem?_toArray, hgd', Option.bind_some, q1]; cases u <;> rfl
        simp only [Region.wanted, hg, hy]
        cases u <;> first | rfl | skip
        rename_i b
        cases b <;> cases want <;> first | rfl | exact absurd rfl hne
      rw [hw]
      exact ⟨fun _ _ => trivial, hK _ M j (Evo.refl _ _) (h.next hO ho hs' hk hd (Evo.refl _ _) ⟨G', hG', hS⟩ (by rw [h1]; rfl) hcn)⟩
    · have hw : Region.wanted o (yielded l.toArray a.tmps) = true := by
        rcases hg with hg | ⟨g, want, d, hg, hgdst, hb⟩
        · simp [Region.wanted, hg]
        · have hy := hgd g want d want hg hgdst hb
          simp [Region.wanted, hg, hy]
      rw [hw, if_pos rfl]
      have hnd : ∀ c, o.op ≠ .defer c := by
        rcases hst with ⟨t, nb, hm, -⟩ | ⟨f, args, ats, g, fs, cs, ts, hoc, -⟩
        · exact opM_op hm
        · rw [hoc]; simp
      refine wpIn_of hnd ?_
      rcases hst with ⟨t, nb, hm, hst⟩ | ⟨f, args, ats, g, fs, cs, ts, hoc, hf, hts, hcall, -⟩
      · have hmk' := opM_ok (M := M) (ρ' := a.eval) hT hlook hop hm
        rcases hst with ⟨hst, hnb'⟩ | ⟨⟨e, cs⟩, rfl, hst, -⟩
        case inr =>
          obtain ⟨u, w', q1, q2, q3, q4⟩ := imm_new hS hmk' (opM_new hm)
          rw [q1]
          exact hK _ _ j q2 (h.next hO ho hs' hk hd q2 ⟨G', hG', hS.world q2 q3⟩ (by rw [hst]; exact q4) hcn)
        subst hst
        cases nb with
        | none =>
          obtain ⟨u, h1, h2⟩ := hmk'
          rw [h1]
          exact hK _ M j (Evo.refl _ _) (h.next hO ho hs' hk hd (Evo.refl _ _) ⟨G', hG', hS⟩ h2 hcn)
        | some p => rw [hnb'] at hnb; cases hnb
      · obtain ⟨dst, op, ty, pos, after, guard⟩ := o
        simp only at hoc hop hd
        subst hoc
        obtain ⟨us, vs, e1, r1, r2⟩ := hop f (by simp [Op.operands, Call.operands]) _ hf
        have r3 := optL_ok (M := M) (ρ' := a.eval) _ _ (fun x hx t ht => hop x (by simp [Op.operands, Call.operands]; exact .inr (by simpa using hx)) t ht) hts
        have hrr : (execOp a.eval ⟨dst, .call ⟨.value f, args, ats⟩, ty, pos, after, guard⟩).run P M.w = .ok (.enter g (us ++ args.toList.map a.eval ++ vs).toArray) M.w := by
          simp only [execOp, resolve, Sem.run_bind, e1, Deferred.ofValue, Sem.run_pure, Result.andThen_ok, invoke]
          rw [run_goFunc _ _ _ hcall.2.2.1, ← map_arr]
          simp
        rw [hrr]
        refine ⟨fun hh => (by cases hh), callsIn_wide.2 ((hcall.run X0 M _ hS.bnd hS.glo (RepL.append (RepL.append r1 r3) r2)).mono ?_)⟩
        rintro e w' ⟨u, rfl, k1, k2, k3⟩
        exact hK _ _ j k1 (h.next hO ho hs' hk hd k1 ⟨G', hG', hS.world k1 k3⟩ k2 hcn)
    · have hw : Region.wanted o (yielded l.toArray a.tmps) = true := by simp [Region.wanted, hg]
      rw [hw, if_pos rfl]
      have hnd : ∀ c, o.op ≠ .defer c := by rw [hoc]; simp
      refine wpIn_of hnd ?_
      obtain ⟨dst, op, ty, pos, after, guard⟩ := o
      simp only at hoc hop hd
      subst hoc
      obtain ⟨us, vs, e1, r1, r2⟩ := hop f (by simp [Op.operands, Call.operands]) _ hf
      have r3 := optL_ok (M := M) (ρ' := a.eval) _ _ (fun x hx t ht => hop x (by simp [Op.operands, Call.operands]; exact .inr (by simpa using hx)) t ht) hts
      have hcl := hcall G' hsn
      have hrr : (execOp a.eval ⟨dst, .call ⟨.value f, args, ats⟩, ty, pos, after, guard⟩).run P M.w = .ok (.enter g (us ++ args.toList.map a.eval ++ vs).toArray) M.w := by
        simp only [execOp, resolve, Sem.run_bind, e1, Deferred.ofValue, Sem.run_pure, Result.andThen_ok, invoke]
        rw [run_goFunc _ _ _ hcl.1, ← map_arr]
        simp
      rw [hrr]
      refine ⟨fun hh => (by cases hh), callsIn_wide.2 ((hcl.2 X0 M _ hS (RepL.append (RepL.append r1 r3) r2)).mono ?_)⟩
      rintro e w' ⟨u, t, H', M', rfl, rfl, ⟨rfl, rfl⟩, k2, k3, k4⟩
      exact hK _ M' j k2 (h.next hO ho hs' hk hd k2 ⟨_, hG', k3⟩ k4 hcn)
end
end
section
open Go.RowKit
section
variable {z : Bool} {P : Program} {tab : Tab} {n m kb lb : Nat} {l : List Oper} {E : Env} {H Hm : Hp} {Fs : List Hp} {r : List Stp} {ws : List Bool} {X0 : Nat → Prop} {M0 : Mp} {im : List Nat}
theorem JdC.fin [Dr] {L : Nat → Prop} {a : Act} {M : Mp} {j : Nat} {F' : Hp} (hO : OrdB l m) (hF : RunCF P tab im l m E Hm r Fs ws) (hlast : Fs[cntB ws ws.length]? = some F') (hlen : Fs.length = cntB ws ws.length + 1) (h : JdC n kb (l.take m) r Fs ws E X0 j L a M) (hL : ∀ k, k < (l.take m).length → L k) : St n kb (envAt (l.take m) r E (l.take m).length) F' X0 a M := by
  have hr := hF.rl
  have hdis : ∀ (i j : Nat) (oi oj : Oper), (l.take m)[i]? = some oi → (l.take m)[j]? = some oj → i ≠ j → ∀ d, oi.dst = some d → oj.dst ≠ some d := fun i j oi oj hi hj hij d hdi => (hO.pair j oj i oi hj hi hij d hdi).1
  obtain ⟨G, hG, hS⟩ := h.sim
  have hjl := (List.getElem?_eq_some_iff.1 hG).1
  have hje : j = cntB ws ws.length := by
    refine Nat.le_antisymm (by omega) (Nat.le_of_not_lt fun hh => ?_)
    obtain ⟨k', q1, q2, q3⟩ := cntB_pos hh
    have := (h.cnt k' q2).1 (hL k' (by rw [← hF.wl]; exact q1))
    omega
  rw [hje, hlast] at hG
  injection hG with hG; subst hG
  refine ⟨fun d t ht => ?_, h.sz, h.df, h.ge, hS⟩
  obtain ⟨g1, g2⟩ := env_get (E := E) (d := d) hr (Nat.le_refl _) hdis
  by_cases hw : ∃ j oj, j < (l.take m).length ∧ (l.take m)[j]? = some oj ∧ oj.dst = some d
  · obtain ⟨j, oj, hj, hoj, hdj⟩ := hw
    have hs : r[j]? = some r[j] := List.getElem?_eq_getElem (by omega)
    rw [g1 j oj _ hj hoj hs hdj] at ht
    injection ht with ht; subst ht
    exact h.slot j oj _ d hoj hs (hL j hj) hdj
  · rw [g2 fun j oj hj hoj hdj => hw ⟨j, oj, hj, hoj, hdj⟩] at ht
    exact h.old d t ht fun j oj hoj _ hdj => hw ⟨j, oj, (List.getElem?_eq_some_iff.1 hoj).1, hoj, hdj⟩
theorem draw_anyC [Dr] (hT : TabOk P tab) (hO : OrdB l m) (hd : dstB n l = true) (hF : RunCF P tab im l m E Hm r Fs ws) {F' : Hp} (hlast : Fs[cntB ws ws.length]? = some F') (hlen : Fs.length = cntB ws ws.length + 1)
    {r0 : Option Nat} {Q : Exit → Act → World → Prop} (hQ : ∀ a M, Evo X0 M0 M → St n kb (envAt (l.take m) r E (l.take m).length) F' X0 a M → wpListIn (FW r0) 0 P l.toArray Q (l.drop m) a M.w) :
    ∀ (fuel : Nat) (listed : Array Bool) (a : Act) (M : Mp) (j : Nat), leftB l listed ≤ fuel → listed.size = l.length → Closed l (lsd listed) → (∀ k, m ≤ k → ¬ lsd listed k) → Evo X0 M0 M → JdC n kb (l.take m) r Fs ws E X0 j (lsd listed) a M → wpAnyIn (FW r0) 0 P .any l.toArray Q fuel listed a M.w := by
  have hml : (l.take m).length = m := by rw [List.length_take]; have := hO.le; omega
  intro fuel
  have fin : ∀ (fuel : Nat) (listed : Array Bool) (a : Act) (M : Mp) (j : Nat), leftB l listed ≤ fuel → listed.size = l.length → (∀ k, m ≤ k → ¬ lsd listed k) → (∀ k, k < m → lsd listed k) → Evo X0 M0 M → JdC n kb (l.take m) r Fs ws E X0 j (lsd listed) a M → wpAnyIn (FW r0) 0 P .any l.toArray Q fuel listed a M.w := by
    intro fuel listed a M j hf hsz hno hall hE hJ
    refine tail_any hO fuel listed m a M.w ?_ hsz (Nat.le_refl _) hO.le (fun k => ⟨fun h => ?_, hall k⟩) (hQ a M hE (hJ.fin hO hF hlast hlen fun k hk => hall k (by omega)))
    · have h1 : leftB l listed = l.length - m := by
        unfold leftB
        have e : List.range l.length = List.range m ++ (List.range (l.length - m)).map (m + ·) := by
          rw [← List.range_add, show m + (l.length - m) = l.length from by have := hO.le; omega]
        rw [e, List.countP_append]
        have e1 : (List.range m).countP (fun k => !listed.getD k false) = 0 := by
          rw [List.countP_eq_zero]
          intro k hk
          have := hall k (List.mem_range.1 hk)
          unfold lsd at this
          simpa using this
        have e2 : ((List.range (l.length - m)).map (m + ·)).countP (fun k => !listed.getD k false) = l.length - m := by
          rw [List.countP_eq_length.2]
          · simp
          · intro k hk
            rw [List.mem_map] at hk
            obtain ⟨q, -, rfl⟩ := hk
            have := hno (m + q) (by omega)
            unfold lsd at this
            simpa using this
        omega
      omega
    · exact Nat.lt_of_not_le fun hk => hno k hk h
  induction fuel with
  | zero =>
    intro listed a M j hf hsz hc hno hE hJ
    by_cases hall : ∀ k, k < m → lsd listed k
    · exact fin 0 listed a M j hf hsz hno hall hE hJ
    · exfalso
      have h0 : leftB l listed = 0 := by omega
      unfold leftB at h0
      rw [List.countP_eq_zero] at h0
      apply hall
      intro k hk
      have := h0 k (List.mem_range.2 (by have := hO.le; omega))
      unfold lsd
      simpa using this
  | succ fuel ih =>
    intro listed a M j hf hsz hc hno hE hJ
    by_cases hall : ∀ k, k < m → lsd listed k
    · exact fin _ listed a M j hf hsz hno hall hE hJ
    · have hnext : ∃ i o, i < m ∧ l[i]? = some o ∧ ¬ lsd listed i ∧ ∀ e ∈ o.after, Region.binds .any e = true → lsd listed e.on := by
        have hex : ∃ k, k < m ∧ ¬ lsd listed k := by
          apply Classical.byContradiction
          intro h
          exact hall fun k hk => Classical.byContradiction fun hn => h ⟨k, hk, hn⟩
        obtain ⟨i, ⟨h1, h2⟩, hmin⟩ := least_nat hex
        have hile : i < l.length := by have := hO.le; omega
        have ho : l[i]? = some l[i] := List.getElem?_eq_getElem hile
        refine ⟨i, _, h1, ho, h2, fun e he hb => ?_⟩
        have hlt := back_at l 0 i _ hO.back ho e he hb
        exact Classical.byContradiction fun hn => by have := hmin e.on ⟨by omega, hn⟩; omega
      refine ⟨fun hr0 => ?_, fun i hi => ?_⟩
      · obtain ⟨i, o, h1, h2, h3, h4⟩ := hnext
        have := ready_of hsz h2 h3 h4
        rw [hr0] at this; cases this
      · obtain ⟨o, ho, hn, hp⟩ := ready_facts hsz hi
        have hil := (List.getElem?_eq_some_iff.1 ho).1
        have him : i < m := by
          refine Nat.lt_of_not_le fun hmi => ?_
          apply hall
          intro k hk
          exact mask_next hO.back hc ho hp (hO.full i hmi hil k (by omega))
        have hop : (l.take m)[i]? = some o := by rw [List.getElem?_take, if_pos him]; exact ho
        have hdo : ∀ d, o.dst = some d → d < n := fun d hdd => by
          unfold dstB at hd
          rw [List.all_eq_true] at hd
          have := hd o (List.mem_of_getElem? ho)
          rw [hdd] at this; simpa using this
        refine JdC.step hT hO hF hJ hc hop hn hp hdo fun a' M' j' hE' hJ' => ?_
        have hiff : ∀ k, lsd (listed.setIfInBounds i true) k ↔ lsd listed k ∨ k = i := lsd_set (by omega)
        have hfun : lsd (listed.setIfInBounds i true) = fun k => lsd listed k ∨ k = i := funext fun k => propext (hiff k)
        refine ih _ a' M' j' ?_ (by simpa using hsz) (fun k ok hok hk e he hb => ?_) (fun k hk h => ?_) (hE.trans hE') (by rw [hfun]; exact hJ')
        · have := leftB_set hsz hil hn; omega
        · rw [hiff] at hk ⊢
          rcases hk with hk | rfl
          · exact .inl (hc k ok hok hk e he hb)
          · rw [ho] at hok; injection hok with hok; subst hok; exact .inl (hp e he hb)
        · rcases (hiff k).1 h with h | h
          · exact hno k hk h
          · omega
def cchB (l : List Oper) (m : Nat) (ws : List Bool) : Bool := (List.range m).all fun k => (List.range k).all fun j => !(ws.getD k false && ws.getD j false) || ((masks l []).getD k 0).testBit j
theorem cch_at {ws : List Bool} (h : cchB l m ws = true) {k j : Nat} (hk : k < m) (hj : j < k) (h1 : ws[k]? = some true) (h2 : ws[j]? = some true) : ((masks l []).getD k 0).testBit j = true := by
  unfold cchB at h
  rw [List.all_eq_true] at h
  have h := h k (List.mem_range.2 hk)
  rw [List.all_eq_true] at h
  have h := h j (List.mem_range.2 hj)
  simpa [List.getD_eq_getElem?_getD, h1, h2] using h
theorem VC.drawC [Dr] {id : Nat} {QT : Exit → Env → Hp → Prop} (hT : TabOk P tab) (im : List Nat) (m : Nat) (hm : P.follows .mixedOrders = true) (hB : drawB n m l = true) (wd : List Bool) (hch : cchB l m wd = true) (hsn : seenL Hm H)
    (h : ∃ r fs E' F', RunC P tab im l.toArray Hm (l.take m) E H r fs wd E' F' ∧ vcSeq P tab im (l.map (·.dst)) (l.drop m) E' F' (QT .normal)) : VC z P n lb (.region id l.toArray true) QT E H := by
  intro X0 M a r0 kb hz hs
  obtain ⟨hO, hd⟩ := ord_of hB
  obtain ⟨r, fs, E', F', hrun, hk⟩ := h
  obtain ⟨h1, h2, h3, h4, h5, h6, h7, h8⟩ := runC_at hrun hsn
  have hF : RunCF P tab im l m E Hm r (H :: fs) wd := ⟨h1, h2, h7, h5, h8, fun k j hk hj q1 q2 => cch_at hch hk hj q1 q2⟩
  refine wpIn_region_any hm ?_
  let M1 : Mp := ⟨M.β, M.X, { M.w with drawn := M.w.drawn + 1 }⟩
  have hE1 : Evo X0 M M1 := ⟨fun _ _ h => h, fun _ _ h => h, fun _ _ _ => rfl, fun _ _ h => h, rfl, ⟨rfl, fun _ => Nat.le_succ _⟩, rfl, Nat.le_refl _⟩
  have hs1 : St n kb E H X0 a M1 := ⟨fun d t ht => by obtain ⟨u, q1, q2⟩ := hs.tm d t ht; exact ⟨u, q1, Rep.stays hE1.stays _ _ q2⟩, hs.sz, hs.df.evo hE1, hs.ge, hs.sim.world hE1 fun _ _ => rfl⟩
  have hno : ∀ k, ¬ lsd (Array.replicate l.toArray.size false) k := fun k hk => by
    unfold lsd at hk
    by_cases hlt : k < l.length
    · simp [hlt] at hk
    · simp [hlt] at hk
  have := draw_anyC (r0 := r0) (X0 := X0) (M0 := M) (Q := Lift n kb lb X0 M QT) hT hO hd hF (by rw [← h3]; exact h6) (by rw [← h3]; rfl) (fun a' M' hE' hs' => by
    rw [← h4] at hs'
    refine vcSeq_ok (im := im) hT _ ?_ hs' (fun E2 H2 a2 M2 k1 k2 k3 => ⟨E2, H2, M2, k1, rfl, (hE'.trans k2).toK lb, k3⟩) hk
    unfold dstB at hd ⊢
    rw [List.all_eq_true] at hd ⊢
    exact fun o ho => hd o (List.mem_of_mem_drop ho)) l.toArray.size (Array.replicate l.toArray.size false) a M1 0 (Nat.le_trans List.countP_le_length (by simp)) (by simp) (fun k o _ hk => absurd hk (hno k)) (fun k _ => hno k) hE1
    ⟨⟨H, rfl, hs1.sim⟩, fun k o s d _ _ hk => absurd hk (hno k), fun d t ht _ => hs1.tm d t ht, hs1.sz, hs1.df, hs1.ge, fun k _ => ⟨fun hk => absurd hk (hno k), fun hh => by omega⟩⟩
  exact this
end
def VD [Dr] (P : Program) (tab : Tab) (im : List Nat) (ops : Array Oper) (Hm : Hp) (l : List Oper) (wd : List Bool) (E : Env) (F : Hp) (K : Env → Hp → Prop) : Prop :=
  ∀ E2, Sub E E2 → ∃ r fs E' F', RunC P tab im ops Hm l E2 F r fs wd E' F' ∧ ∃ E1, Sub E1 E' ∧ K E1 F'
section
variable {z : Bool} {P : Program} {tab : Tab} {n lb : Nat} {im : List Nat} {ops : Array Oper} {l : List Oper} {E : Env} {Hm F : Hp} {K : Env → Hp → Prop} {wd : List Bool}
theorem VD.nil [Dr] (h : K E F) : VD P tab im ops Hm [] [] E F K := fun E2 he => ⟨[], [], E2, F, .nil _ _, E, he, h⟩
theorem VD.meek [Dr] {d : Nat} {op : Op} {ty : TypeId} {pos : String} {after : Array Edge} {t : T} (h : opM tab (lookH Hm) Hm.length E.opd op = some (t, none)) (k : VD P tab im ops Hm l wd ((d, t) :: E) F K) : VD P tab im ops Hm (⟨some d, op, ty, pos, after, none⟩ :: l) (false :: wd) E F K := fun E2 he => by
  obtain ⟨r, fs, E', F', h1, h2⟩ := k _ (he.put d t)
  exact ⟨⟨t, none⟩ :: r, fs, E', F', .one (s := ⟨t, none⟩) (.inr ⟨.inl rfl, .inl ⟨t, none, opM_mono (fun x s hx => he.opd hx) h, .inl ⟨rfl, rfl⟩⟩⟩) rfl h1, h2⟩
theorem VD.call [Dr] {d : Nat} {ty : TypeId} {pos : String} {after : Array Edge} {f : Operand} {args : Array Operand} {ats : Array TypeId} {g : FuncId} {us vs ts : List T} {t : T} {F1 : Hp} (hf : E.opd f = some (.clo g us vs)) (ha : optL E.opd args.toList = some ts)
    (hc : CallT P g (us ++ ts ++ vs) F (fun u H' => u = t ∧ H' = F1)) (hs : seenL Hm F1) (k : VD P tab im ops Hm l wd ((d, t) :: E) F1 K) : VD P tab im ops Hm (⟨some d, .call ⟨.value f, args, ats⟩, ty, pos, after, none⟩ :: l) (true :: wd) E F K := fun E2 he => by
  obtain ⟨r, fs, E', F', h1, h2⟩ := k _ (he.put d t)
  exact ⟨⟨t, none⟩ :: r, F1 :: fs, E', F', .call (t := t) rfl (.inl ⟨f, args, ats, g, us, vs, ts, rfl, he.opd hf, optL_mono (fun x s hx => he.opd hx) _ _ ha, hc⟩) hs h1, h2⟩
theorem VD.app [Dr] {d : Nat} {ty : TypeId} {pos : String} {after : Array Edge} {x y : Operand} {t1 t2 : TypeId} {ta tb t : T} {F1 : Hp} (hx : E.opd x = some ta) (hy : E.opd y = some tb) (ha : mAppend tab F t1 t2 ta tb = some (t, F1)) (hs : seenL Hm F1) (k : VD P tab im ops Hm l wd ((d, t) :: E) F1 K) :
    VD P tab im ops Hm (⟨some d, .call ⟨.builtin .append, #[x, y], #[t1, t2]⟩, ty, pos, after, none⟩ :: l) (true :: wd) E F K := fun E2 he => by
  obtain ⟨r, fs, E', F', h1, h2⟩ := k _ (he.put d t)
  exact ⟨⟨t, none⟩ :: r, F1 :: fs, E', F', .call (t := t) rfl (.inr (.inl ⟨x, y, t1, t2, ta, tb, rfl, he.opd hx, he.opd hy, ha⟩)) hs h1, h2⟩
theorem VD.new [Dr] {d : Nat} {op : Op} {ty : TypeId} {pos : String} {after : Array Edge} {t : T} {p : Nat × List T} {F1 : Hp} (h : opM tab (lookH F) F.length E.opd op = some (t, some p)) (he1 : F ++ [.c p.2] = F1) (hs : seenL Hm F1) (k : VD P tab im ops Hm l wd ((d, t) :: E) F1 K) : VD P tab im ops Hm (⟨some d, op, ty, pos, after, none⟩ :: l) (true :: wd) E F K := fun E2 he => by
  obtain ⟨r, fs, E', F', h1, h2⟩ := k _ (he.put d t)
  exact ⟨⟨t, none⟩ :: r, F1 :: fs, E', F', .call (t := t) rfl (.inr (.inr (.inl ⟨p, opM_mono (fun x s hx => he.opd hx) h, he1.symm⟩))) hs h1, h2⟩
theorem VD.sto [Dr] {t0 : TypeId} {a x : Operand} {ty : TypeId} {pos : String} {after : Array Edge} {b o : Nat} {i : TyI} {cs : List T} {tx : T} {F1 : Hp} (hT : tab t0 = some i) (ha : E.opd a = some (.ptr b o)) (hx : E.opd x = some tx) (hc : lookH F b = some cs)
    (h1 : (flat tx).length = i.sz) (h2 : o + i.sz ≤ cs.length) (h3 : (flat tx).all cellB = true) (he1 : setH F b (.c (putL cs o (flat tx))) = F1) (hs : seenL Hm F1) (k : VD P tab im ops Hm l wd E F1 K) :
    VD P tab im ops Hm (⟨none, .store t0 a x, ty, pos, after, none⟩ :: l) (true :: wd) E F K := fun E2 he => by
  obtain ⟨r, fs, E', F', g1, g2⟩ := k _ he
  refine ⟨⟨.v undef, none⟩ :: r, F1 :: fs, E', F', .call (t := .v undef) rfl (.inr (.inr (.inr ⟨t0, a, x, _, tx, rfl, he.opd ha, he.opd hx, ?_, rfl⟩))) hs g1, g2⟩
  simp only [mStore, hT, hc]
  rw [if_pos ⟨h1, h2, h3⟩, he1]
theorem VD.look [Dr] {d : Nat} {ty : TypeId} {pos : String} {after : Array Edge} {f : Operand} {args : Array Operand} {ats : Array TypeId} {g : FuncId} {us vs ts : List T} {t : T} (hf : E.opd f = some (.clo g us vs)) (ha : optL E.opd args.toList = some ts)
    (hc : ∀ G, seenL Hm G → CallT P g (us ++ ts ++ vs) G (fun u H' => u = t ∧ H' = G)) (k : VD P tab im ops Hm l wd ((d, t) :: E) F K) : VD P tab im ops Hm (⟨some d, .call ⟨.value f, args, ats⟩, ty, pos, after, none⟩ :: l) (false :: wd) E F K := fun E2 he => by
  obtain ⟨r, fs, E', F', h1, h2⟩ := k _ (he.put d t)
  exact ⟨⟨t, none⟩ :: r, fs, E', F', .look (t := t) rfl ⟨f, args, ats, g, us, vs, ts, rfl, he.opd hf, optL_mono (fun x s hx => he.opd hx) _ _ ha, hc⟩ h1, h2⟩
theorem VD.newI [Dr] {d : Nat} {op : Op} {ty : TypeId} {pos : String} {after : Array Edge} {t : T} {p : Nat × List T} (h : opM tab (lookH Hm) Hm.length E.opd op = some (t, some p)) (k : VD P tab im ops Hm l wd ((d, immT t p.2) :: E) F K) : VD P tab im ops Hm (⟨some d, op, ty, pos, after, none⟩ :: l) (false :: wd) E F K := fun E2 he => by
  obtain ⟨r, fs, E', F', h1, h2⟩ := k _ (he.put d _)
  exact ⟨⟨immT t p.2, none⟩ :: r, fs, E', F', .one (s := ⟨immT t p.2, none⟩) (.inr ⟨.inl rfl, .inl ⟨t, some p, opM_mono (fun x s hx => he.opd hx) h, .inr ⟨p, rfl, rfl, rfl⟩⟩⟩) rfl h1, h2⟩
theorem VD.callP [Dr] {d : Nat} {ty : TypeId} {pos : String} {after : Array Edge} {f : Operand} {args : Array Operand} {ats : Array TypeId} {g : FuncId} {us vs ts : List T} {t : T} (hf : E.opd f = some (.clo g us vs)) (ha : optL E.opd args.toList = some ts)
    (hc : CallP P g (us ++ ts ++ vs) t) (k : VD P tab im ops Hm l wd ((d, t) :: E) F K) : VD P tab im ops Hm (⟨some d, .call ⟨.value f, args, ats⟩, ty, pos, after, none⟩ :: l) (false :: wd) E F K := fun E2 he => by
  obtain ⟨r, fs, E', F', h1, h2⟩ := k _ (he.put d t)
  exact ⟨⟨t, none⟩ :: r, fs, E', F', .one (s := ⟨t, none⟩) (.inr ⟨.inl rfl, .inr ⟨f, args, ats, g, us, vs, ts, rfl, he.opd hf, optL_mono (fun x s hx => he.opd hx) _ _ ha, hc, rfl⟩⟩) rfl h1, h2⟩
end
section
variable {z : Bool} {P : Program} {tab : Tab} {n lb : Nat} {E : Env} {H : Hp} {QT : Exit → Env → Hp → Prop}
theorem VC.drwCN [Dr] {id : Nat} {l l2 : List Oper} (hT : TabOk P tab) (im : List Nat) (l1 : List Oper) (Hm : Hp) (wd : List Bool) (hl : l = l1 ++ l2) (hm : P.follows .mixedOrders = true) (hB : drawB n l1.length l = true) (hch : cchB l l1.length wd = true) (hsn : seenL Hm H) (h : VD P tab im l.toArray Hm l1 wd E H fun E H => VX false P tab im (l.map (·.dst)) l2 E H (QT .normal)) : VC z P n lb (.region id l.toArray true) QT E H := by
  have e1 : l.take l1.length = l1 := by rw [hl, List.take_left]
  have e2 : l.drop l1.length = l2 := by rw [hl, List.drop_left]
  obtain ⟨r, fs, E', F', h1, E1, h3, h4⟩ := h E (Sub.refl E)
  refine VC.eqv (VC.drawC hT im l1.length hm hB wd hch hsn ⟨r, fs, E', F', by rw [e1]; exact h1, ?_⟩)
  rw [e2]
  exact h4 E' h3
theorem VC.drwC [Dr] {id : Nat} {l l2 : List Oper} {c : Code} (hT : TabOk P tab) (im : List Nat) (l1 : List Oper) (Hm : Hp) (wd : List Bool) (hl : l = l1 ++ l2) (hm : P.follows .mixedOrders = true) (hB : drawB n l1.length l = true) (hch : cchB l l1.length wd = true) (hsn : seenL Hm H) (h : VD P tab im l.toArray Hm l1 wd E H fun E H => VX false P tab im (l.map (·.dst)) l2 E H fun E H => VC z P n lb c QT E H) : VC z P n lb (.seq (.region id l.toArray true) c) QT E H := VC.seq (VC.drwCN hT im l1 Hm wd hl hm hB hch hsn h)
end
theorem seen_nil {F : Hp} : seenL [] F := ⟨Nat.zero_le _, fun b hb => absurd (by simp [blkH]) hb⟩
theorem seen_same {x : Blk} {a b : Hp} (h : seenL a b) : seenL (x :: a) (x :: b) := ⟨by have := h.1; simp; omega, fun c hc => by cases c with | zero => rfl | succ c => exact h.2 c hc⟩
theorem seen_dead {x : Blk} {a b : Hp} (h : seenL a b) : seenL (.d :: a) (x :: b) := ⟨by have := h.1; simp; omega, fun c hc => by cases c with | zero => exact absurd rfl hc | succ c => exact h.2 c hc⟩
end
section
open Go.ChangeShapes Go.WideShapes Go.ChangeAt Go.RowKit Go.WideElems
inductive Sh where
  | int (k : IntKind)
  | bool
  | str
  | st (l : List Sh)
  | sl (e : Sh)
mutual
def Sh.fits (P : Program) : Sh → TypeId → Bool
  | .int k, t => match P.underlying t with | some (.int k') => decide (k' = k) | _ => false
  | .bool, t => match P.underlying t with | some .bool => true | _ => false
  | .str, t => match P.underlying t with | some .string => true | _ => false
  | .st l, t => match P.underlying t with | some (.struct fs) => Sh.fitsL P l fs.toList 0 (P.cellsOf t) | _ => false
  | .sl e, t => match P.underlying t with | some (.slice u) => Sh.fits P e u && decide (0 < P.cellsOf u) && decide (P.cellsOf t = 1) | _ => false
def Sh.fitsL (P : Program) : List Sh → List Field → Nat → Nat → Bool
  | [], [], o, n => o == n
  | s :: l, f :: fs, o, n => f.offset == o && Sh.fits P s f.type && Sh.fitsL P l fs (o + P.cellsOf f.type) n
  | _, _, _, _ => false
end
def nth (p : List T → Prop) : Nat → List T → Prop
  | 0, xs => xs = []
  | n + 1, xs => ∃ a b, xs = a ++ b ∧ p a ∧ nth p n b
mutual
def Sh.wt : Sh → List T → Prop
  | .int k, ts => ∃ n, ts = [.v (.int k n)] ∧ (Lit.int k n).wf = true
  | .bool, ts => ∃ b, ts = [.v (.bool b)]
  | .str, ts => ∃ s : ByteArray, ts = [.v (.string s)] ∧ s.size ≤ maxLen
  | .st l, ts => Sh.wtL l ts
  | .sl e, ts => ∃ xs n, ts = [.islc xs n none] ∧ n ≤ maxLen ∧ nth (Sh.wt e) n xs
def Sh.wtL : List Sh → List T → Prop
  | [], ts => ts = []
  | s :: l, ts => ∃ a b, ts = a ++ b ∧ Sh.wt s a ∧ Sh.wtL l b
end
def inW (β : Nat → Option (Option (Nat × Nat))) (W : World) : Mp := ⟨β, fun _ => False, W⟩
theorem RepA.app {M : Mp} : ∀ {ts ss : List T} {a : Array Value} {j : Nat}, RepA M ts a j → RepA M ss a (j + ts.length) → RepA M (ts ++ ss) a j
  | [], ss, a, j, _, h => h
  | t :: ts, ss, a, j, ⟨u, h1, h2, h3⟩, h => ⟨u, h1, h2, RepA.app h3 (by rw [show j + 1 + ts.length = j + (t :: ts).length from by rw [List.length_cons]; omega]; exact h)⟩
theorem cell_block {W : World} {B o : Nat} {v : Value} (h : W.cell? ⟨B, o, none⟩ = some v) : ∃ a e f, W.heap[B]? = some (.cells a e f) := by
  unfold World.cell? at h
  split at h
  · rename_i c e f hh
    exact ⟨c, e, f, hh⟩
  · cases h
theorem cell_inW {W : World} {B o : Nat} {a : Array Value} {e : TypeId} {f : Nat × Nat} (h : W.heap[B]? = some (.cells a e f)) : W.cell? ⟨B, o, none⟩ = a[o]? := by
  unfold World.cell?
  rw [h]
  rfl
theorem add_n (B o i : Nat) : (Addr.add ⟨B, o, none⟩ i) = ⟨B, o + i, none⟩ := by
  unfold Addr.add
  split
  · subst_vars; rfl
  · rfl
section
variable {H : Type} {enc : TypeId × Value → H} {P : Program} {W : World} {sp : Nat → Bool} {held : Bool} {β : Nat → Option (Option (Nat × Nat))}
mutual
theorem open_sh : ∀ (s : Sh) {t : TypeId} {fuel : Nat} {cs : List Value} {x : DataW H × List MemPlace}, s.fits P t = true → DataW.trod enc P W 0 sp held fuel t cs = some x → cs.length = P.cellsOf t → ∃ ts, RepL (inW β W) ts cs ∧ s.wt ts
  | .int k, t, fuel, cs, x, hs, h, hl => by
    unfold Sh.fits at hs
    split at hs
    · rename_i k' hu
      obtain rfl : k' = k := of_decide_eq_true hs
      obtain ⟨n, rfl, _, hw⟩ := DataW.trod_int hu h
      exact ⟨[.v (.int k' n)], ⟨_, _, rfl, rfl, rfl⟩, n, rfl, hw⟩
    · cases hs
  | .bool, t, fuel, cs, x, hs, h, hl => by
    unfold Sh.fits at hs
    split at hs
    · rename_i hu
      cases fuel with
      | zero => simp [DataW.trod] at h
      | succ n =>
        unfold DataW.trod at h
        rw [hu] at h
        split at h <;> simp_all
        exact ⟨[.v (.bool _)], ⟨_, _, rfl, rfl, rfl⟩, _, rfl⟩
    · cases hs
  | .str, t, fuel, cs, x, hs, h, hl => by
    unfold Sh.fits at hs
    split at hs
    · rename_i hu
      obtain ⟨s, rfl, _, hw⟩ := DataW.trod_string hu h
      exact ⟨[.v (.string s)], ⟨_, _, rfl, rfl, rfl⟩, s, rfl, hw⟩
    · cases hs
  | .st l, t, fuel, cs, x, hs, h, hl => by
    unfold Sh.fits at hs
    split at hs
    · rename_i fs hu
      obtain ⟨xs, n, -, -, hc, hx, hf⟩ := DataW.trod_struct hu h
      have := open_shL l (fs := fs.toList) (o := 0) (n := P.cellsOf t) (cs := cs) (m := n) hs hc (fun f hm => by
        obtain ⟨i, hi⟩ := List.getElem?_of_mem hm
        have hi2 : fs[i]? = some f := by simpa using hi
        have h1 := hf i f hi2
        have hlt : i < xs.length := by rw [hx]; exact (Array.getElem?_eq_some_iff.1 hi2).1
        exact ⟨xs[i], by rw [h1, List.getElem?_eq_getElem hlt]⟩)
      rw [List.drop_zero] at this
      exact this
    · cases hs
  | .sl e, t, fuel, cs, x, hs, h, hl => by
    unfold Sh.fits at hs
    split at hs
    · rename_i u hu
      simp only [Bool.and_eq_true, decide_eq_true_eq] at hs
      obtain ⟨hs, -⟩ := hs
      rcases DataW.trod_slice hu h with ⟨rfl, -⟩ | ⟨a, len, cap, elems, rest, m, -, rfl, -, -, hle, hcap, hlen, hel, -, -⟩
      · exact ⟨[.islc [] 0 none], ⟨_, _, rfl, ⟨none, 0, rfl, Nat.le_refl _, Nat.zero_le _, fun q hq => (by cases hq), .inl ⟨rfl, rfl⟩⟩, rfl⟩, [], 0, rfl, Nat.zero_le _, rfl⟩
      · by_cases hn : len = 0
        · subst hn
          exact ⟨[.islc [] 0 none], ⟨_, _, rfl, ⟨some a, cap, rfl, Nat.zero_le _, hcap, fun q hq => (by cases hq), .inl ⟨rfl, rfl⟩⟩, rfl⟩, [], 0, rfl, Nat.zero_le _, rfl⟩
        · have h0 := hel 0 (by omega)
          have hsome : ∀ i, i < len → ∃ cs' y, W.cells? 0 (a.add (i * P.cellsOf u)) (P.cellsOf u) = some cs' ∧ DataW.trod enc P W 0 sp held m u cs' = some y := fun i hi => by
            have hq := hel i hi
            rw [List.getElem?_eq_getElem (by omega), Option.bind_eq_some_iff] at hq
            obtain ⟨cs', h1, h2⟩ := hq
            exact ⟨cs', _, h1, h2⟩
          obtain ⟨ab, ao, asx⟩ := a
          obtain ⟨cs0, y0, c1, -⟩ := hsome 0 (by omega)
          obtain ⟨-, c2, c3⟩ := World.cells?_some c1
          have c4 := c3 0 hs.2
          rw [List.getElem?_eq_getElem (by omega)] at c4
          have hspot : asx = none := by simpa [Addr.add] using World.cell?_spot c4
          subst hspot
          rw [add_n, add_n] at c4
          obtain ⟨arr, e1, f1, hB⟩ := cell_block c4
          have build : ∀ n i, i + n ≤ len → ∃ xs, nth e.wt n xs ∧ RepA (inW β W) xs arr (ao + i * P.cellsOf u) := by
            intro n
            induction n with
            | zero => exact fun i _ => ⟨[], rfl, trivial⟩
            | succ n ih =>
              intro i hi
              obtain ⟨xs, k1, k2⟩ := ih (i + 1) (by omega)
              obtain ⟨cs', y, g1, g2⟩ := hsome i (by omega)
              obtain ⟨-, g3, g4⟩ := World.cells?_some g1
              obtain ⟨ts, r1, r2⟩ := open_sh e hs.1 g2 g3
              have hlen' : ts.length = P.cellsOf u := by rw [← r1.length, g3]
              refine ⟨ts ++ xs, ⟨ts, xs, rfl, r2, k1⟩, RepA.app (repA_of fun j tj hj => ?_) (by rw [hlen', Nat.add_assoc, ← Nat.succ_mul]; exact k2)⟩
              obtain ⟨uj, q1, q2⟩ := r1.get j tj hj
              have hjl : j < P.cellsOf u := by rw [← g3]; exact (List.getElem?_eq_some_iff.1 q1).1
              refine ⟨uj, ?_, q2⟩
              rw [← q1, ← g4 j hjl, add_n, add_n, cell_inW hB]
          obtain ⟨xs, k1, k2⟩ := build len 0 (by omega)
          rw [Nat.zero_mul, Nat.add_zero] at k2
          refine ⟨[.islc xs len none], ⟨_, _, rfl, ⟨_, cap, rfl, hle, hcap, fun q hq => (by cases hq), .inr ⟨ab, ao, arr, rfl, ⟨fun hx => hx, e1, f1, hB⟩, k2⟩⟩, rfl⟩, xs, len, rfl, by omega, k1⟩
    · cases hs
theorem open_shL : ∀ (l : List Sh) {fs : List Field} {o n m : Nat} {cs : List Value}, Sh.fitsL P l fs o n = true → cs.length = n → (∀ f ∈ fs, ∃ x, DataW.trod enc P W 0 sp held m f.type ((cs.drop f.offset).take (P.cellsOf f.type)) = some x) → ∃ ts, RepL (inW β W) ts (cs.drop o) ∧ Sh.wtL l ts
  | [], [], o, n, m, cs, hs, hl, h => by
    have e : o = n := by unfold Sh.fitsL at hs; simpa using hs
    exact ⟨[], by show cs.drop o = []; rw [List.drop_eq_nil_iff]; omega, rfl⟩
  | [], f :: fs, o, n, m, cs, hs, hl, h => by unfold Sh.fitsL at hs; cases hs
  | s :: l, [], o, n, m, cs, hs, hl, h => by unfold Sh.fitsL at hs; cases hs
  | s :: l, f :: fs, o, n, m, cs, hs, hl, h => by
    unfold Sh.fitsL at hs
    simp only [Bool.and_eq_true, beq_iff_eq] at hs
    obtain ⟨⟨h1, h2⟩, h3⟩ := hs
    have hle := fitsL_le l h3
    obtain ⟨x, hx⟩ := h f (by simp)
    obtain ⟨a, a1, a2⟩ := open_sh s h2 hx (by rw [List.length_take, List.length_drop]; omega)
    obtain ⟨b, b1, b2⟩ := open_shL l h3 hl (fun g hg => h g (by simp [hg]))
    refine ⟨a ++ b, ?_, a, b, rfl, a2, b2⟩
    have e : cs.drop o = (cs.drop f.offset).take (P.cellsOf f.type) ++ cs.drop (o + P.cellsOf f.type) := by
      rw [h1, ← List.drop_drop, List.take_append_drop]
    rw [e]
    exact RepL.append a1 b1
theorem fitsL_le : ∀ (l : List Sh) {fs : List Field} {o n : Nat}, Sh.fitsL P l fs o n = true → o ≤ n
  | [], [], o, n, hs => by unfold Sh.fitsL at hs; simp at hs; omega
  | [], f :: fs, o, n, hs => by unfold Sh.fitsL at hs; cases hs
  | s :: l, [], o, n, hs => by unfold Sh.fitsL at hs; cases hs
  | s :: l, f :: fs, o, n, hs => by
    unfold Sh.fitsL at hs
    simp only [Bool.and_eq_true, beq_iff_eq] at hs
    have := fitsL_le l hs.2
    omega
end
def Sh.tree : Sh → List T → T
  | .st _, ts => .agg ts
  | _, ts => ts.headD (.tup [])
theorem open_arg {b0 : Nat} (s : Sh) {t : TypeId} {v : Value} {d : DataW H} {p : List MemPlace} (hs : s.fits P t = true) (hv : Value.okWide P W .any b0 t v) (h : DataW.Trod enc P W 0 sp held t v d p) :
    ∃ ts, Rep (inW β W) (s.tree ts) v ∧ s.wt ts := by
  obtain ⟨fuel, hf⟩ := h
  cases s with
  | int k =>
    have hs' := hs
    unfold Sh.fits at hs
    split at hs
    · rename_i k' hu
      obtain ⟨n, rfl⟩ := okWide_int hu hv
      obtain ⟨n', e, _, hw⟩ := DataW.trod_int hu hf
      simp [Value.cells] at e
      obtain ⟨rfl⟩ := e
      obtain rfl : k' = k := of_decide_eq_true hs
      exact ⟨[.v (.int k' n)], rfl, n, rfl, hw⟩
    · cases hs
  | bool =>
    unfold Sh.fits at hs
    split at hs
    · rename_i hu
      obtain ⟨n, rfl⟩ := okWide_bool hu hv
      exact ⟨[.v (.bool n)], rfl, n, rfl⟩
    · cases hs
  | str =>
    unfold Sh.fits at hs
    split at hs
    · rename_i hu
      obtain ⟨n, rfl⟩ := okWide_string hu hv
      obtain ⟨n', e, _, hw⟩ := DataW.trod_string hu hf
      simp [Value.cells] at e
      subst e
      exact ⟨[.v (.string n)], rfl, n, rfl, hw⟩
    · cases hs
  | st l =>
    have hs' := hs
    unfold Sh.fits at hs
    split at hs
    · rename_i fs hu
      obtain ⟨cs, rfl, hsz⟩ := okWide_struct hu hv
      obtain ⟨ts, r1, r2⟩ := open_sh (β := β) (.st l) hs' hf (by rw [← hsz]; rfl)
      exact ⟨ts, ⟨cs.toList, rfl, r1⟩, r2⟩
    · cases hs
  | sl e =>
    have hs' := hs
    unfold Sh.fits at hs
    split at hs
    · rename_i u hu
      obtain ⟨a, len, cap, rfl⟩ := okWide_slice hu hv
      have hl1 : P.cellsOf t = 1 := by
        simp only [Bool.and_eq_true, decide_eq_true_eq] at hs
        exact hs.2
      obtain ⟨ts, r1, r2⟩ := open_sh (β := β) (.sl e) hs' hf (by rw [hl1]; rfl)
      obtain ⟨xs, n, rfl, h1, h2⟩ := r2
      obtain ⟨w, r, e1, e2, e3⟩ := r1
      have e1' : [Value.slice a len cap] = w :: r := e1
      injection e1' with e4 e5
      subst e4
      exact ⟨[.islc xs n none], e2, xs, n, rfl, h1, h2⟩
    · cases hs
theorem law_run [Dr] {f : FuncId} {args : List T} {vs : List Value} (h : CallP P f args (.v (.bool true))) (hr : RepL (inW (fun _ => none) W) args vs) (hG : Glo (inW (fun _ => none) W) := by exact fun g a h => (by cases h)) :
    Calls P f vs.toArray W (fun e W' => e = .returned (.bool true) ∧ Below W.heap.size W W') :=
  (h.run (fun _ => False) (inW (fun _ => none) W) vs (fun B hB => hB.elim) hG hr).mono fun e W' ⟨u, h1, h2, h3, h4⟩ => by
    have h3' : u = .bool true := h3
    subst h3'
    exact ⟨h1, ⟨h2.os, h2.tape.1, h2.output, h2.size, h4⟩⟩
end
end
section
def spaceA : Array Value := (Lib.asciiSpaceTab.map fun z => Value.int .u8 z).toArray
def glT : Nat → Option (Array Value) := fun g => if g = 0 then some spaceA else none
end
section
open Go.RowKit
instance looseI : Dr := ⟨False, glT⟩
end
section
open Go.RowKit
def cY : Cd UInt8 := ⟨1, fun b => [U8 (b.toNat : Int)], fun _ => rfl, fun _ => rfl, fun _ => rfl, by decide⟩
theorem cY_sz : cY.sz = 1 := rfl
abbrev strT (l : List UInt8) : T := .v (.string ⟨l.toArray⟩)
def cStr : Cd (List UInt8) := ⟨1, fun l => [strT l], fun _ => rfl, fun _ => rfl, fun _ => rfl, by decide⟩
theorem cStr_sz : cStr.sz = 1 := rfl
theorem au_sY {p : Prop} (h : p := by first | rfl | exact Nat.le_of_ble_eq_true rfl | omega | (simp only [encL_len, List.length_append, List.length_cons, List.length_nil, List.length_replicate, Nat.zero_add, cI_sz, cU_sz, cY_sz, cStr_sz]; omega) | (simp [encL_len, cI_sz, cU_sz, cY_sz, cStr_sz]; done) | (simp [encL_len, cI_sz, cU_sz, cY_sz, cStr_sz]; omega)) : p := h
theorem bytesT_Y : ∀ l : List UInt8, bytesT (encL cY l) = some l
  | [] => rfl
  | b :: l => by
    show (match bytesT (encL cY l) with | some l' => some (UInt8.ofNat ((b.toNat : Int)).toNat :: l') | none => none) = _
    rw [bytesT_Y l]
    simp
theorem bytL_Y (s : ByteArray) : bytL s = encL cY s.data.toList := by
  unfold bytL
  generalize s.data.toList = l
  induction l with
  | nil => rfl
  | cons a l ih => rw [List.map_cons, ih]; rfl
theorem wrapU {n : Int} (h : 0 ≤ n ∧ n < 256) : IntKind.u8.wrap n = n := by
  have : IntKind.u8.wrap n = n % 256 := by simp [IntKind.wrap, IntKind.bits, IntKind.signed]
  rw [this]; omega
theorem byt_eta (s : ByteArray) : (⟨s.data.toList.toArray⟩ : ByteArray) = s := by cases s; simp
theorem src_c {α : Type} (c : Cd α) {tab : Tab} {look : Look} {t e sz n : Nat} {i : TyI} {l : List α} {q : Option Nat} (hn : n = l.length) (hT : tab t = some i) (hk : i.k = .sl e) (hz : sz = c.sz) : srcCells tab look t sz (.islc (encL c l) n q) = some (encL c l, n) := by
  subst hz hn
  unfold srcCells
  rw [hT]
  simp only [hk]
  rw [if_pos (by rw [encL_len]; exact Nat.le_refl _), List.take_of_length_le (by rw [encL_len]; exact Nat.le_refl _)]
section
variable {q : Bool} {P : Program} {tab : Tab} {im : List Nat} {ds : List (Option Nat)} {l : List Oper} {E : Env} {H Hm F : Hp} {K : Env → Hp → Prop} {d : Nat} {ty : TypeId} {pos : String} {after : Array Edge} {ops : Array Oper} {wd : List Bool}
theorem VX.maxX [Dr] {x y : Operand} {t1 t2 : TypeId} {a b : Int} (hx : E.opd x = some (I64 a)) (hy : E.opd y = some (I64 b)) (k : VX q P tab im ds l ((d, I64 (max a b)) :: E) H K) : VX q P tab im ds (⟨some d, .call ⟨.builtin .max, #[x, y], #[t1, t2]⟩, ty, pos, after, none⟩ :: l) E H K := by
  refine VX.meek (t := I64 (max a b)) ?_ k
  have e : (if b > a then b else a) = max a b := by rw [Int.max_def]; split <;> split <;> omega
  simp only [opM, optL, hx, hy, mMins, mMin, Bool.false_eq_true, if_false, e]
theorem VX.minX [Dr] {x y : Operand} {t1 t2 : TypeId} {a b : Int} (hx : E.opd x = some (I64 a)) (hy : E.opd y = some (I64 b)) (k : VX q P tab im ds l ((d, I64 (min a b)) :: E) H K) : VX q P tab im ds (⟨some d, .call ⟨.builtin .min, #[x, y], #[t1, t2]⟩, ty, pos, after, none⟩ :: l) E H K := by
  refine VX.meek (t := I64 (min a b)) ?_ k
  have e : (if b < a then b else a) = min a b := by rw [Int.min_def]; split <;> split <;> omega
  simp only [opM, optL, hx, hy, mMins, mMin, if_true, e]
theorem VX.quoX [Dr] {x y : Operand} {t t2 : Nat} {a c : Int} (hx : E.opd x = some (I64 a)) (hy : E.opd y = some (I64 c)) (ha : 0 ≤ a) (ha2 : a ≤ 9000000000000000000) (hc : 0 < c) (k : VX q P tab im ds l ((d, I64 (a / c)) :: E) H K) : VX q P tab im ds (⟨some d, .binOp .quo t x y t2, ty, pos, after, none⟩ :: l) E H K := by
  refine VX.meek (t := I64 (a / c)) ?_ k
  have h1 : a / c ≤ a := Int.ediv_le_self c ha
  have h2 : 0 ≤ a / c := Int.ediv_nonneg ha (by omega)
  have hc' : ¬ c = 0 := by omega
  simp only [opM, hx, hy, mBin, binInt]
  rw [if_neg hc', Int.tdiv_eq_ediv_of_nonneg ha, wrap_in (by omega)]
  rfl
theorem VX.remX [Dr] {x y : Operand} {t t2 : Nat} {a c : Int} (hx : E.opd x = some (I64 a)) (hy : E.opd y = some (I64 c)) (ha : 0 ≤ a) (hc : 0 < c) (k : VX q P tab im ds l ((d, I64 (a % c)) :: E) H K) : VX q P tab im ds (⟨some d, .binOp .rem t x y t2, ty, pos, after, none⟩ :: l) E H K := by
  refine VX.meek (t := I64 (a % c)) ?_ k
  have hc' : ¬ c = 0 := by omega
  simp only [opM, hx, hy, mBin, binInt]
  rw [if_neg hc', Int.tmod_eq_emod_of_nonneg ha]
  rfl
theorem VX.strI [Dr] {t1 t2 e n : Nat} {x : Operand} {i j r : TyI} {c : Option Nat} {cs : List T} {xs : List UInt8} (hT : tab t1 = some i) (hk : i.k = .sl e) (hj : tab t2 = some j) (hj2 : j.k = .str) (he : tab e = some r) (hr : r.k = .int .u8) (hx : E.opd x = some (.islc cs n c)) (hl : n ≤ cs.length) (hc : cs.take n = encL cY xs)
    (k : VX q P tab im ds l ((d, strT xs) :: E) H K) : VX q P tab im ds (⟨some d, .convert t1 t2 x, ty, pos, after, none⟩ :: l) E H K := by
  refine VX.meek (t := strT xs) ?_ k
  simp only [opM, hx, mConv, hT, hj, hk, hj2, he, hr]
  rw [if_pos hl, hc, bytesT_Y]
theorem VX.strY [Dr] {t1 t2 e b o n : Nat} {x : Operand} {i j r : TyI} {c : Option Nat} {cs : List T} {xs : List UInt8} (hT : tab t1 = some i) (hk : i.k = .sl e) (hj : tab t2 = some j) (hj2 : j.k = .str) (he : tab e = some r) (hr : r.k = .int .u8) (hx : E.opd x = some (.slc b o n 1 c)) (hb : lookH H b = some cs) (hl : o + n ≤ cs.length) (hc : (cs.drop o).take n = encL cY xs)
    (k : VX q P tab im ds l ((d, strT xs) :: E) H K) : VX q P tab im ds (⟨some d, .convert t1 t2 x, ty, pos, after, none⟩ :: l) E H K := by
  refine VX.meek (t := strT xs) ?_ k
  simp only [opM, hx, mConv, hT, hj, hk, hj2, he, hr, hb]
  rw [if_pos hl, hc, bytesT_Y]
theorem VX.idxY [Dr] {t m : Nat} {x ix : Operand} {i : TyI} {xs : List UInt8} {k : IntKind} {z : Int} {b : UInt8} (hT : tab t = some i) (hk : i.k = .str) (hx : E.opd x = some (strT xs)) (hi : E.opd ix = some (.v (.int k z))) (hz : z = (m : Int)) (hb : xs[m]? = some b)
    (kk : VX q P tab im ds l ((d, U8 (b.toNat : Int)) :: E) H K) : VX q P tab im ds (⟨some d, .index t x ix, ty, pos, after, none⟩ :: l) E H K := by
  refine VX.meek (t := U8 (b.toNat : Int)) ?_ kk
  subst hz
  have hs : (⟨xs.toArray⟩ : ByteArray)[m]? = some b := by
    obtain ⟨h1, h2⟩ := List.getElem?_eq_some_iff.1 hb
    rw [getElem?_pos (⟨xs.toArray⟩ : ByteArray) m (by exact h1)]
    congr 1
  simp only [opM, hx, hi, mIndex, hT, hk, Int.natCast_nonneg, if_true, Int.toNat_natCast]
  rw [hs]
theorem str_beq (a b : List UInt8) : ((⟨a.toArray⟩ : ByteArray).toList == (⟨b.toArray⟩ : ByteArray).toList) = (a == b) := by
  have h : ∀ l : List UInt8, (⟨l.toArray⟩ : ByteArray).toList = l := fun l => by
    rw [show (⟨l.toArray⟩ : ByteArray).toList = (⟨l.toArray⟩ : ByteArray).data.toList from ByteArray.toList_eq _]
  rw [h, h]
end
theorem CallP.of_world {P : Program} {f : FuncId} {us : List Value} {args : List T} {r : T} (hp : T.pureL args = true) (hr : r.pure = true) (he : ∀ (M : Mp) vs, RepL M args vs → vs = us) (hgo : goB P f = true)
    (h : ∀ w, Calls P f us.toArray w (fun e w' => ∃ u, e = .returned u ∧ Below w.heap.size w w' ∧ ∀ M : Mp, M.w = w' → (∀ B, w.heap.size ≤ B → ¬ M.X B) → Rep M r u)) : CallP P f args r := by
  refine ⟨hp, hr, hgo, fun X0 M vs hS hrep => ?_⟩
  obtain rfl := he M vs hrep
  refine (h M.w).mono ?_
  rintro e w' ⟨u, rfl, hb, hu⟩
  have hk : ∀ B, B < M.w.heap.size → w'.heap[B]? = M.w.heap[B]? := fun B hB => hb.block B hB
  have hE : Evo X0 M ⟨M.β, M.X, w'⟩ := ⟨fun _ _ h => h, fun _ _ h => h, fun B hB _ => hk B hB, fun B s hs => by
    have : B < M.w.heap.size := by
      rcases Nat.lt_or_ge B M.w.heap.size with h1 | h1
      · exact h1
      · simp [World.shape?, Array.getElem?_eq_none h1] at hs
    rw [← hs]; exact shape_block (hk B this), hb.os, ⟨hb.tape, fun d => d.elim⟩, hb.output, hb.size⟩
  exact ⟨u, r, [], ⟨M.β, M.X, w'⟩, rfl, rfl, rfl, hE, hS.world hE hk, hu _ rfl fun B hB hx => absurd (hS.bnd B hx) (by omega)⟩
end
section
open Go.RowKit
def clearL (g : List UInt8) (a b : Nat) : List UInt8 := g.take a ++ (List.replicate (b - a) 32 ++ g.drop (max a b))
theorem clearL_len (g : List UInt8) (a b : Nat) (h : b ≤ g.length) : (clearL g a b).length = g.length := by
  unfold clearL
  simp only [List.length_append, List.length_take, List.length_replicate, List.length_drop]
  omega
def Scr.clear (S : Scr) (a b : Nat) : Scr := { S with grid := clearL S.grid a b }
def Scr.keep (S : Scr) (l : List UInt8) : Scr :=
  if S.most = 0 then S else if S.most ≤ S.kept.length then { S with kept := S.kept.tail ++ [l] } else { S with kept := S.kept ++ [l] }
def Scr.withGrid (S : Scr) (g : List UInt8) : Scr := { S with grid := g }
theorem Scr.keep_grid (S : Scr) (l : List UInt8) : (S.keep l).grid = S.grid := by unfold Scr.keep; split; rfl; split <;> rfl
def Scr.scroll (S : Scr) : Scr :=
  (S.keep (S.grid.take S.cols)).withGrid (S.grid.drop S.cols ++ List.replicate S.cols 32)
def Scr.lineEnd (S : Scr) : Scr := if S.y + 1 < S.rows then { S with x := 0, y := S.y + 1 } else ({ S with x := 0 } : Scr).scroll
theorem Scr.Ok.keep {S : Scr} (ok : S.Ok) (l : List UInt8) : (S.keep l).Ok := by
  unfold Scr.keep
  split
  · exact ok
  · split
    · exact ⟨ok.c1, ok.c2, ok.r1, ok.r2, ok.m, ok.x, ok.y, ok.g, by have := ok.k; simp; omega, ok.s, ok.a, ok.b, ok.n⟩
    · exact ⟨ok.c1, ok.c2, ok.r1, ok.r2, ok.m, ok.x, ok.y, ok.g, by simp; omega, ok.s, ok.a, ok.b, ok.n⟩
theorem Scr.Ok.withGrid {S : Scr} (ok : S.Ok) (g : List UInt8) (h : g.length = S.grid.length) : (S.withGrid g).Ok :=
  ⟨ok.c1, ok.c2, ok.r1, ok.r2, ok.m, ok.x, ok.y, h.trans ok.g, ok.k, ok.s, ok.a, ok.b, ok.n⟩
theorem Scr.Ok.cg {S : Scr} (ok : S.Ok) : S.cols ≤ S.grid.length := by rw [ok.g]; exact Nat.le_mul_of_pos_right _ ok.r1
theorem Scr.Ok.g2 {S : Scr} (ok : S.Ok) : S.grid.length ≤ 8192 := by rw [ok.g]; exact Nat.mul_le_mul ok.c2 ok.r2
theorem Scr.Ok.scroll {S : Scr} (ok : S.Ok) : S.scroll.Ok :=
  (ok.keep _).withGrid _ (by rw [Scr.keep_grid]; have := ok.cg; simp; omega)
theorem Scr.Ok.pos {S : Scr} (ok : S.Ok) (x y : Nat) (hx : x ≤ S.cols) : ({ S with x := x, y := y } : Scr).Ok ↔ y < S.rows :=
  ⟨fun h => h.y, fun h => ⟨ok.c1, ok.c2, ok.r1, ok.r2, ok.m, hx, h, ok.g, ok.k, ok.s, ok.a, ok.b, ok.n⟩⟩
theorem Scr.Ok.lineEnd {S : Scr} (ok : S.Ok) : S.lineEnd.Ok := by
  unfold Scr.lineEnd
  split
  · exact (ok.pos 0 (S.y + 1) (Nat.zero_le _)).2 (by assumption)
  · exact Scr.Ok.scroll ((ok.pos 0 S.y (Nat.zero_le _)).2 ok.y)
theorem Scr.scroll_x (S : Scr) : S.scroll.x = S.x := by unfold Scr.scroll Scr.withGrid Scr.keep; split; rfl; split <;> rfl
theorem Scr.scroll_cols (S : Scr) : S.scroll.cols = S.cols := by unfold Scr.scroll Scr.withGrid Scr.keep; split; rfl; split <;> rfl
theorem Scr.lineEnd_x (S : Scr) : S.lineEnd.x = 0 := by unfold Scr.lineEnd; split; rfl; rw [Scr.scroll_x]
theorem Scr.lineEnd_cols (S : Scr) : S.lineEnd.cols = S.cols := by unfold Scr.lineEnd; split; rfl; rw [Scr.scroll_cols]
def Scr.blank (S : Scr) (n f t : Nat) : Scr :=
  if n = 0 then S.clear (S.y * S.cols + min S.x (S.cols - 1)) t else if n = 1 then S.clear f (S.y * S.cols + min S.x (S.cols - 1) + 1) else if n = 2 then S.clear f t else S
def Scr.put (S : Scr) (v : UInt8) : Scr := { S with grid := S.grid.set (S.y * S.cols + S.x) v, x := S.x + 1 }
def Scr.letter (S : Scr) (v : UInt8) : Scr := if S.x = S.cols then S.lineEnd.put v else S.put v
def Scr.plain (S : Scr) (v : UInt8) : Scr :=
  if 32 ≤ v.toNat ∧ v.toNat ≤ 126 then S.letter v
  else if v.toNat = 10 then S.lineEnd
  else if v.toNat = 13 then { S with x := 0 }
  else if v.toNat = 8 then { S with x := S.x - 1 }
  else if v.toNat = 9 then { S with x := max (min ((S.x / 8 + 1) * 8) (S.cols - 1)) S.x }
  else if v.toNat = 12 then { S.clear 0 S.grid.length with x := 0, y := 0 }
  else if v.toNat = 27 then { S with st := 1 }
  else S
def Scr.cmd (S : Scr) (k n m : Nat) : Scr :=
  if k = 65 then { S with y := S.y - max n 1 }
  else if k = 66 then { S with y := min (S.y + max n 1) (S.rows - 1) }
  else if k = 67 then { S with x := min (S.x + max n 1) (S.cols - 1) }
  else if k = 68 then { S with x := S.x - max n 1 }
  else if k = 72 then { S with y := min (max n 1) S.rows - 1, x := min (max m 1) S.cols - 1 }
  else if k = 74 then S.blank n 0 S.grid.length
  else if k = 75 then S.blank n (S.y * S.cols) ((S.y + 1) * S.cols)
  else S
def Scr.told (S : Scr) (v : Nat) : Scr :=
  if 48 ≤ v ∧ v ≤ 57 then (if S.num = 0 then { S with n0 := min (S.n0 * 10 + (v - 48)) 999 } else if S.num = 1 then { S with n1 := min (S.n1 * 10 + (v - 48)) 999 } else S)
  else if v = 59 then { S with num := min (S.num + 1) 2 }
  else ({ S with st := 0 } : Scr).cmd v S.n0 S.n1
def Scr.byte (S : Scr) (v : UInt8) : Scr :=
  if S.st = 1 then (if v.toNat = 91 then { S with st := 2, n0 := 0, n1 := 0, num := 0 } else { S with st := 0 })
  else if S.st = 2 then S.told v.toNat else S.plain v
def Scr.bytes (S : Scr) (l : List UInt8) : Scr := l.foldl Scr.byte S
theorem Scr.Ok.clear {S : Scr} (ok : S.Ok) (a b : Nat) (h : b ≤ S.grid.length) : (S.clear a b).Ok := { ok with g := (clearL_len S.grid a b h).trans ok.g }
theorem Scr.Ok.put {S : Scr} (ok : S.Ok) (v : UInt8) (h : S.x < S.cols) : (S.put v).Ok := { ok with x := h, g := (List.length_set).trans ok.g }
theorem Scr.Ok.pg {S : Scr} (ok : S.Ok) : S.y * S.cols + S.cols ≤ S.grid.length := by rw [ok.g, ← Nat.succ_mul, Nat.mul_comm]; exact Nat.mul_le_mul (Nat.le_refl _) ok.y
theorem Scr.Ok.blank {S : Scr} (ok : S.Ok) (n f t : Nat) (h : t ≤ S.grid.length) : (S.blank n f t).Ok := by
  have h1 := ok.pg
  have h2 := ok.c1
  unfold Scr.blank
  split
  · exact ok.clear _ _ h
  · split
    · exact ok.clear _ _ (by omega)
    · split
      · exact ok.clear _ _ h
      · exact ok
theorem Scr.Ok.plain {S : Scr} (ok : S.Ok) (v : UInt8) : (S.plain v).Ok := by
  have hx := ok.x
  have hc := ok.c1
  have hy := ok.y
  unfold Scr.plain
  split
  · unfold Scr.letter
    split
    · exact ok.lineEnd.put v (by rw [Scr.lineEnd_x, Scr.lineEnd_cols]; exact ok.c1)
    · exact ok.put v (by omega)
  split
  · exact ok.lineEnd
  split
  · exact { ok with x := Nat.zero_le _ }
  split
  · exact { ok with x := (by show S.x - 1 ≤ S.cols; omega) }
  split
  · exact { ok with x := (by show max (min ((S.x / 8 + 1) * 8) (S.cols - 1)) S.x ≤ S.cols; omega) }
  split
  · have := ok.clear 0 S.grid.length (Nat.le_refl _)
    exact { this with x := Nat.zero_le _, y := (by show 0 < S.rows; omega) }
  split
  · exact { ok with s := (by show 1 ≤ 2; omega) }
  · exact ok
theorem Scr.Ok.cmd {S : Scr} (ok : S.Ok) (k n m : Nat) : (S.cmd k n m).Ok := by
  have hx := ok.x
  have hc := ok.c1
  have hy := ok.y
  unfold Scr.cmd
  split
  · exact { ok with y := (by show S.y - max n 1 < S.rows; omega) }
  split
  · exact { ok with y := (by show min (S.y + max n 1) (S.rows - 1) < S.rows; omega) }
  split
  · exact { ok with x := (by show min (S.x + max n 1) (S.cols - 1) ≤ S.cols; omega) }
  split
  · exact { ok with x := (by show S.x - max n 1 ≤ S.cols; omega) }
  split
  · exact { ok with y := (by show min (max n 1) S.rows - 1 < S.rows; omega), x := (by show min (max m 1) S.cols - 1 ≤ S.cols; omega) }
  split
  · exact ok.blank _ _ _ (Nat.le_refl _)
  split
  · exact ok.blank _ _ _ (by have := ok.pg; rw [Nat.succ_mul]; exact this)
  · exact ok
theorem Scr.Ok.told {S : Scr} (ok : S.Ok) (v : Nat) : (S.told v).Ok := by
  unfold Scr.told
  split
  · split
    · exact { ok with a := (by show min _ 999 ≤ 999; omega) }
    split
    · exact { ok with b := (by show min _ 999 ≤ 999; omega) }
    · exact ok
  split
  · exact { ok with n := (by show min _ 2 ≤ 2; omega) }
  · exact Scr.Ok.cmd (S := { S with st := 0 }) { ok with s := (by show 0 ≤ 2; omega) } _ _ _
theorem Scr.Ok.byte {S : Scr} (ok : S.Ok) (v : UInt8) : (S.byte v).Ok := by
  unfold Scr.byte
  split
  · split
    · exact { ok with s := (by show 2 ≤ 2; omega), a := (by show 0 ≤ 999; omega), b := (by show 0 ≤ 999; omega), n := (by show 0 ≤ 2; omega) }
    · exact { ok with s := (by show 0 ≤ 2; omega) }
  split
  · exact ok.told _
  · exact ok.plain _
theorem Scr.Ok.bytes {S : Scr} (ok : S.Ok) (l : List UInt8) : (S.bytes l).Ok := by
  unfold Scr.bytes
  induction l generalizing S with
  | nil => exact ok
  | cons v l ih => exact ih (ok.byte v)
def Scr.row (S : Scr) (y : Int) : List UInt8 := if 0 ≤ y ∧ y < S.rows then (S.grid.drop (y.toNat * S.cols)).take S.cols else []
end
section
open Go.RowKit
set_option maxRecDepth 100000
theorem tyOk_of {P : Program} {t sz by_ : Nat} {zs : List Value} {zero : List T} {k : Kd} {eq : Bool} {D : TypeDesc} (h1 : ((P.info? t).map fun I => (I.size, I.bytes, I.zero.map fun z => z.cells.toList)) = some (sz, by_, some zs)) (h2 : P.underlying t = some D) (hz : zs.map T.v = zero) (hk : kdOk D k) (hl : zs.length = sz)
    (ha : (k.agg || sz == 1) = true) (hf : (match D with | .struct fs => fs.toList.all fun f => (P.info? f.type).isSome | _ => true) = true)
    (hag : ((P.info? t).bind fun I => I.zero.map fun z => z.isAggB) = some k.agg) (he : (!eq || (!P.stoodInHeld t && !P.eqGuardType P.depth t && (match D with | .struct fs => fs.toList.all fun f => f.name != "_" | _ => false))) = true) : TyOk P t ⟨sz, by_, zero, k, eq⟩ := by
  subst hz
  rw [Option.map_eq_some_iff] at h1
  obtain ⟨I, h3, h4⟩ := h1
  injection h4 with h4 h5; injection h5 with h5 h6
  rw [Option.map_eq_some_iff] at h6
  obtain ⟨z, h6, h7⟩ := h6
  refine ⟨⟨I, h3, h4, h5, z, h6, by rw [h7]⟩, ⟨D, h2, hk⟩, by simpa using hl, fun fs hfs => ?_, fun hag => ?_, ⟨I, z, h3, h6, by rw [h3, Option.bind_some, h6] at hag; simpa using hag⟩, fun he' => ?_⟩
  · rw [h2] at hfs; injection hfs with hfs; subst hfs; exact hf
  · rw [hag] at ha; simpa using ha
  · simp only at he'
    subst he'
    simp only [Bool.not_true, Bool.false_or, Bool.and_eq_true, Bool.not_eq_true'] at he
    obtain ⟨⟨e1, e2⟩, e3⟩ := he
    refine ⟨e1, e2, ?_⟩
    cases D <;> first | (cases e3; done) | skip
    rename_i fs
    refine ⟨fs, h2, fun f hf => ?_⟩
    rw [List.all_eq_true] at e3
    simpa using e3 f hf
theorem ty_1 : TyOk Tryz.prog 1 ⟨1, 8, [.v (.nilFunc)], .fn, false⟩ := tyOk_of (zs := [.nilFunc]) (by kernel_rfl) Tryz.underlying1 rfl trivial rfl rfl (by kernel_rfl) (by kernel_rfl) (by kernel_rfl)
theorem ty_2 : TyOk Tryz.prog 2 ⟨1, 8, [.v (.int .i64 0)], .int .i64, false⟩ := tyOk_of (zs := [.int .i64 0]) (by kernel_rfl) Tryz.underlying2 rfl rfl rfl rfl (by kernel_rfl) (by kernel_rfl) (by kernel_rfl)
theorem ty_3 : TyOk Tryz.prog 3 ⟨1, 8, [.v (.int .i64 0)], .int .i64, false⟩ := tyOk_of (zs := [.int .i64 0]) (by kernel_rfl) Tryz.underlying3 rfl rfl rfl rfl (by kernel_rfl) (by kernel_rfl) (by kernel_rfl)
theorem ty_4 : TyOk Tryz.prog 4 ⟨1, 1, [.v (.bool false)], .bool, false⟩ := tyOk_of (zs := [.bool false]) (by kernel_rfl) Tryz.underlying4 rfl trivial rfl rfl (by kernel_rfl) (by kernel_rfl) (by kernel_rfl)
theorem ty_5 : TyOk Tryz.prog 5 ⟨1, 1, [.v (.int .u8 0)], .int .u8, false⟩ := tyOk_of (zs := [.int .u8 0]) (by kernel_rfl) Tryz.underlying5 rfl rfl rfl rfl (by kernel_rfl) (by kernel_rfl) (by kernel_rfl)
theorem ty_6 : TyOk Tryz.prog 6 ⟨1, 1, [.v (.int .u8 0)], .int .u8, false⟩ := tyOk_of (zs := [.int .u8 0]) (by kernel_rfl) Tryz.underlying6 rfl rfl rfl rfl (by kernel_rfl) (by kernel_rfl) (by kernel_rfl)
theorem ty_7 : TyOk Tryz.prog 7 ⟨4, 24, [.v (.int .i64 0), .v (.int .i64 0), .v (.bool false), .v (.int .u8 0)], .st [(0, 2), (1, 3), (2, 4), (3, 6)], false⟩ := tyOk_of (zs := [.int .i64 0, .int .i64 0, .bool false, .int .u8 0]) (by kernel_rfl) Tryz.underlying7 rfl rfl rfl rfl (by kernel_rfl) (by kernel_rfl) (by kernel_rfl)
theorem ty_8 : TyOk Tryz.prog 8 ⟨4, 24, [.v (.int .i64 0), .v (.int .i64 0), .v (.bool false), .v (.int .u8 0)], .st [(0, 2), (1, 3), (2, 4), (3, 6)], false⟩ := tyOk_of (zs := [.int .i64 0, .int .i64 0, .bool false, .int .u8 0]) (by kernel_rfl) Tryz.underlying8 rfl rfl rfl rfl (by kernel_rfl) (by kernel_rfl) (by kernel_rfl)
theorem ty_9 : TyOk Tryz.prog 9 ⟨1, 16, [.v (.string ⟨#[]⟩)], .str, false⟩ := tyOk_of (zs := [.string ⟨#[]⟩]) (by kernel_rfl) Tryz.underlying9 rfl trivial rfl rfl (by kernel_rfl) (by kernel_rfl) (by kernel_rfl)
theorem ty_10 : TyOk Tryz.prog 10 ⟨1, 16, [.v (.string ⟨#[]⟩)], .str, false⟩ := tyOk_of (zs := [.string ⟨#[]⟩]) (by kernel_rfl) Tryz.underlying10 rfl trivial rfl rfl (by kernel_rfl) (by kernel_rfl) (by kernel_rfl)
theorem ty_11 : TyOk Tryz.prog 11 ⟨1, 16, [.v (.string ⟨#[]⟩)], .str, false⟩ := tyOk_of (zs := [.string ⟨#[]⟩]) (by kernel_rfl) Tryz.underlying11 rfl trivial rfl rfl (by kernel_rfl) (by kernel_rfl) (by kernel_rfl)
theorem ty_12 : TyOk Tryz.prog 12 ⟨1, 8, [.v (.int .u64 0)], .int .u64, false⟩ := tyOk_of (zs := [.int .u64 0]) (by kernel_rfl) Tryz.underlying12 rfl rfl rfl rfl (by kernel_rfl) (by kernel_rfl) (by kernel_rfl)
theorem ty_13 : TyOk Tryz.prog 13 ⟨2, 24, [.v (.string ⟨#[]⟩), .v (.int .u64 0)], .st [(0, 9), (1, 12)], false⟩ := tyOk_of (zs := [.string ⟨#[]⟩, .int .u64 0]) (by kernel_rfl) Tryz.underlying13 rfl rfl rfl rfl (by kernel_rfl) (by kernel_rfl) (by kernel_rfl)
theorem ty_14 : TyOk Tryz.prog 14 ⟨2, 24, [.v (.string ⟨#[]⟩), .v (.int .u64 0)], .st [(0, 9), (1, 12)], false⟩ := tyOk_of (zs := [.string ⟨#[]⟩, .int .u64 0]) (by kernel_rfl) Tryz.underlying14 rfl rfl rfl rfl (by kernel_rfl) (by kernel_rfl) (by kernel_rfl)
theorem ty_15 : TyOk Tryz.prog 15 ⟨1, 8, [.v (.pointer none)], .ptr 200, false⟩ := tyOk_of (zs := [.pointer none]) (by kernel_rfl) Tryz.underlying15 rfl rfl rfl rfl (by kernel_rfl) (by kernel_rfl) (by kernel_rfl)
theorem ty_16 : TyOk Tryz.prog 16 ⟨1, 8, [.v (.pointer none)], .ptr 203, false⟩ := tyOk_of (zs := [.pointer none]) (by kernel_rfl) Tryz.underlying16 rfl rfl rfl rfl (by kernel_rfl) (by kernel_rfl) (by kernel_rfl)
theorem ty_17 : TyOk Tryz.prog 17 ⟨1, 8, [.v (.pointer none)], .ptr 211, false⟩ := tyOk_of (zs := [.pointer none]) (by kernel_rfl) Tryz.underlying17 rfl rfl rfl rfl (by kernel_rfl) (by kernel_rfl) (by kernel_rfl)
theorem ty_18 : TyOk Tryz.prog 18 ⟨1, 8, [.v (.pointer none)], .st [(0, 17)], false⟩ := tyOk_of (zs := [.pointer none]) (by kernel_rfl) Tryz.underlying18 rfl rfl rfl rfl (by kernel_rfl) (by kernel_rfl) (by kernel_rfl)
theorem ty_19 : TyOk Tryz.prog 19 ⟨1, 8, [.v (.pointer none)], .st [(0, 17)], false⟩ := tyOk_of (zs := [.pointer none]) (by kernel_rfl) Tryz.underlying19 rfl rfl rfl rfl (by kernel_rfl) (by kernel_rfl) (by kernel_rfl)
theorem ty_21 : TyOk Tryz.prog 21 ⟨1, 4, [.v (.int .i32 0)], .int .i32, false⟩ := tyOk_of (zs := [.int .i32 0]) (by kernel_rfl) Tryz.underlying21 rfl rfl rfl rfl (by kernel_rfl) (by kernel_rfl) (by kernel_rfl)
theorem ty_22 : TyOk Tryz.prog 22 ⟨1, 8, [.v (.nilFunc)], .fn, false⟩ := tyOk_of (zs := [.nilFunc]) (by kernel_rfl) Tryz.underlying22 rfl trivial rfl rfl (by kernel_rfl) (by kernel_rfl) (by kernel_rfl)
theorem ty_23 : TyOk Tryz.prog 23 ⟨1, 8, [.v (.nilFunc)], .fn, false⟩ := tyOk_of (zs := [.nilFunc]) (by kernel_rfl) Tryz.underlying23 rfl trivial rfl rfl (by kernel_rfl) (by kernel_rfl) (by kernel_rfl)
theorem ty_24 : TyOk Tryz.prog 24 ⟨2, 16, [.v (.int .i64 0), .v (.int .i64 0)], .st [(0, 3), (1, 3)], true⟩ := tyOk_of (zs := [.int .i64 0, .int .i64 0]) (by kernel_rfl) Tryz.underlying24 rfl rfl rfl rfl (by kernel_rfl) (by kernel_rfl) (by kernel_rfl)
theorem ty_25 : TyOk Tryz.prog 25 ⟨2, 16, [.v (.int .i64 0), .v (.int .i64 0)], .st [(0, 3), (1, 3)], true⟩ := tyOk_of (zs := [.int .i64 0, .int .i64 0]) (by kernel_rfl) Tryz.underlying25 rfl rfl rfl rfl (by kernel_rfl) (by kernel_rfl) (by kernel_rfl)
theorem ty_26 : TyOk Tryz.prog 26 ⟨1, 24, [.v (.slice none 0 0)], .sl 153, false⟩ := tyOk_of (zs := [.slice none 0 0]) (by kernel_rfl) Tryz.underlying26 rfl rfl rfl rfl (by kernel_rfl) (by kernel_rfl) (by kernel_rfl)
theorem ty_27 : TyOk Tryz.prog 27 ⟨1, 24, [.v (.slice none 0 0)], .st [(0, 26)], false⟩ := tyOk_of (zs := [.slice none 0 0]) (by kernel_rfl) Tryz.underlying27 rfl rfl rfl rfl (by kernel_rfl) (by kernel_rfl) (by kernel_rfl)
theorem ty_28 : TyOk Tryz.prog 28 ⟨1, 24, [.v (.slice none 0 0)], .st [(0, 26)], false⟩ := tyOk_of (zs := [.slice none 0 0]) (by kernel_rfl) Tryz.underlying28 rfl rfl rfl rfl (by kernel_rfl) (by kernel_rfl) (by kernel_rfl)
theorem ty_29 : TyOk Tryz.prog 29 ⟨1, 24, [.v (.slice none 0 0)], .st [(0, 28)], false⟩ := tyOk_of (zs := [.slice none 0 0]) (by kernel_rfl) Tryz.underlying29 rfl rfl rfl rfl (by kernel_rfl) (by kernel_rfl) (by kernel_rfl)
theorem ty_30 : TyOk Tryz.prog 30 ⟨1, 24, [.v (.slice none 0 0)], .st [(0, 28)], false⟩ := tyOk_of (zs := [.slice none 0 0]) (by kernel_rfl) Tryz.underlying30 rfl rfl rfl rfl (by kernel_rfl) (by kernel_rfl) (by kernel_rfl)
theorem ty_31 : TyOk Tryz.prog 31 ⟨1, 24, [.v (.slice none 0 0)], .st [(0, 28)], false⟩ := tyOk_of (zs := [.slice none 0 0]) (by kernel_rfl) Tryz.underlying31 rfl rfl rfl rfl (by kernel_rfl) (by kernel_rfl) (by kernel_rfl)
theorem ty_32 : TyOk Tryz.prog 32 ⟨3, 64, [.v (.slice none 0 0), .v (.slice none 0 0), .v (.string ⟨#[]⟩)], .st [(0, 30), (1, 31), (2, 9)], false⟩ := tyOk_of (zs := [.slice none 0 0, .slice none 0 0, .string ⟨#[]⟩]) (by kernel_rfl) Tryz.underlying32 rfl rfl rfl rfl (by kernel_rfl) (by kernel_rfl) (by kernel_rfl)
theorem ty_33 : TyOk Tryz.prog 33 ⟨3, 64, [.v (.slice none 0 0), .v (.slice none 0 0), .v (.string ⟨#[]⟩)], .st [(0, 30), (1, 31), (2, 9)], false⟩ := tyOk_of (zs := [.slice none 0 0, .slice none 0 0, .string ⟨#[]⟩]) (by kernel_rfl) Tryz.underlying33 rfl rfl rfl rfl (by kernel_rfl) (by kernel_rfl) (by kernel_rfl)
theorem ty_34 : TyOk Tryz.prog 34 ⟨16, 176, [.v (.int .i64 0), .v (.int .i64 0), .v (.bool false), .v (.int .i64 0), .v (.int .i64 0), .v (.int .i64 0), .v (.int .i64 0), .v (.int .i64 0), .v (.slice none 0 0), .v (.slice none 0 0), .v (.string ⟨#[]⟩), .v (.int .i64 0), .v (.int .i64 0), .v (.string ⟨#[]⟩), .v (.int .i64 0), .v (.int .i64 0)], .st [(0, 25), (2, 4), (3, 2), (4, 2), (5, 2), (6, 3), (7, 3), (8, 33), (11, 3), (12, 3), (13, 9), (14, 3), (15, 3)], false⟩ := tyOk_of (zs := [.int .i64 0, .int .i64 0, .bool false, .int .i64 0, .int .i64 0, .int .i64 0, .int .i64 0, .int .i64 0, .slice none 0 0, .slice none 0 0, .string ⟨#[]⟩, .int .i64 0, .int .i64 0, .string ⟨#[]⟩, .int .i64 0, .int .i64 0]) (by kernel_rfl) Tryz.underlying34 rfl rfl rfl rfl (by kernel_rfl) (by kernel_rfl) (by kernel_rfl)
theorem ty_35 : TyOk Tryz.prog 35 ⟨16, 176, [.v (.int .i64 0), .v (.int .i64 0), .v (.bool false), .v (.int .i64 0), .v (.int .i64 0), .v (.int .i64 0), .v (.int .i64 0), .v (.int .i64 0), .v (.slice none 0 0), .v (.slice none 0 0), .v (.string ⟨#[]⟩), .v (.int .i64 0), .v (.int .i64 0), .v (.string ⟨#[]⟩), .v (.int .i64 0), .v (.int .i64 0)], .st [(0, 25), (2, 4), (3, 2), (4, 2), (5, 2), (6, 3), (7, 3), (8, 33), (11, 3), (12, 3), (13, 9), (14, 3), (15, 3)], false⟩ := tyOk_of (zs := [.int .i64 0, .int .i64 0, .bool false, .int .i64 0, .int .i64 0, .int .i64 0, .int .i64 0, .int .i64 0, .slice none 0 0, .slice none 0 0, .string ⟨#[]⟩, .int .i64 0, .int .i64 0, .string ⟨#[]⟩, .int .i64 0, .int .i64 0]) (by kernel_rfl) Tryz.underlying35 rfl rfl rfl rfl (by kernel_rfl) (by kernel_rfl) (by kernel_rfl)
theorem ty_36 : TyOk Tryz.prog 36 ⟨1, 24, [.v (.slice none 0 0)], .sl 49, false⟩ := tyOk_of (zs := [.slice none 0 0]) (by kernel_rfl) Tryz.underlying36 rfl rfl rfl rfl (by kernel_rfl) (by kernel_rfl) (by kernel_rfl)
theorem ty_37 : TyOk Tryz.prog 37 ⟨1, 8, [.v (.int .i64 0)], .int .i64, false⟩ := tyOk_of (zs := [.int .i64 0]) (by kernel_rfl) Tryz.underlying37 rfl rfl rfl rfl (by kernel_rfl) (by kernel_rfl) (by kernel_rfl)
theorem ty_39 : TyOk Tryz.prog 39 ⟨1, 8, [.v (.nilFunc)], .fn, false⟩ := tyOk_of (zs := [.nilFunc]) (by kernel_rfl) Tryz.underlying39 rfl trivial rfl rfl (by kernel_rfl) (by kernel_rfl) (by kernel_rfl)
theorem ty_41 : TyOk Tryz.prog 41 ⟨1, 8, [.v (.nilFunc)], .fn, false⟩ := tyOk_of (zs := [.nilFunc]) (by kernel_rfl) Tryz.underlying41 rfl trivial rfl rfl (by kernel_rfl) (by kernel_rfl) (by kernel_rfl)
theorem ty_42 : TyOk Tryz.prog 42 ⟨1, 24, [.v (.slice none 0 0)], .sl 2, false⟩ := tyOk_of (zs := [.slice none 0 0]) (by kernel_rfl) Tryz.underlying42 rfl rfl rfl rfl (by kernel_rfl) (by kernel_rfl) (by kernel_rfl)
theorem ty_43 : TyOk Tryz.prog 43 ⟨6, 88, [.v (.int .i64 0), .v (.int .i64 0), .v (.int .i64 0), .v (.slice none 0 0), .v (.string ⟨#[]⟩), .v (.slice none 0 0)], .st [(0, 3), (1, 3), (2, 3), (3, 42), (4, 9), (5, 42)], false⟩ := tyOk_of (zs := [.int .i64 0, .int .i64 0, .int .i64 0, .slice none 0 0, .string ⟨#[]⟩, .slice none 0 0]) (by kernel_rfl) Tryz.underlying43 rfl rfl rfl rfl (by kernel_rfl) (by kernel_rfl) (by kernel_rfl)
theorem ty_44 : TyOk Tryz.prog 44 ⟨6, 88, [.v (.int .i64 0), .v (.int .i64 0), .v (.int .i64 0), .v (.slice none 0 0), .v (.string ⟨#[]⟩), .v (.slice none 0 0)], .st [(0, 3), (1, 3), (2, 3), (3, 42), (4, 9), (5, 42)], false⟩ := tyOk_of (zs := [.int .i64 0, .int .i64 0, .int .i64 0, .slice none 0 0, .string ⟨#[]⟩, .slice none 0 0]) (by kernel_rfl) Tryz.underlying44 rfl rfl rfl rfl (by kernel_rfl) (by kernel_rfl) (by kernel_rfl)
theorem ty_45 : TyOk Tryz.prog 45 ⟨1, 8, [.v (.nilFunc)], .fn, false⟩ := tyOk_of (zs := [.nilFunc]) (by kernel_rfl) Tryz.underlying45 rfl trivial rfl rfl (by kernel_rfl) (by kernel_rfl) (by kernel_rfl)
theorem ty_46 : TyOk Tryz.prog 46 ⟨1, 8, [.v (.nilFunc)], .fn, false⟩ := tyOk_of (zs := [.nilFunc]) (by kernel_rfl) Tryz.underlying46 rfl trivial rfl rfl (by kernel_rfl) (by kernel_rfl) (by kernel_rfl)
theorem ty_47 : TyOk Tryz.prog 47 ⟨1, 8, [.v (.nilFunc)], .fn, false⟩ := tyOk_of (zs := [.nilFunc]) (by kernel_rfl) Tryz.underlying47 rfl trivial rfl rfl (by kernel_rfl) (by kernel_rfl) (by kernel_rfl)
theorem ty_48 : TyOk Tryz.prog 48 ⟨4, 72, [.v (.int .i64 0), .v (.slice none 0 0), .v (.string ⟨#[]⟩), .v (.slice none 0 0)], .st [(0, 3), (1, 42), (2, 9), (3, 42)], false⟩ := tyOk_of (zs := [.int .i64 0, .slice none 0 0, .string ⟨#[]⟩, .slice none 0 0]) (by kernel_rfl) Tryz.underlying48 rfl rfl rfl rfl (by kernel_rfl) (by kernel_rfl) (by kernel_rfl)
theorem ty_49 : TyOk Tryz.prog 49 ⟨4, 72, [.v (.int .i64 0), .v (.slice none 0 0), .v (.string ⟨#[]⟩), .v (.slice none 0 0)], .st [(0, 3), (1, 42), (2, 9), (3, 42)], false⟩ := tyOk_of (zs := [.int .i64 0, .slice none 0 0, .string ⟨#[]⟩, .slice none 0 0]) (by kernel_rfl) Tryz.underlying49 rfl rfl rfl rfl (by kernel_rfl) (by kernel_rfl) (by kernel_rfl)
theorem ty_50 : TyOk Tryz.prog 50 ⟨1, 8, [.v (.nilFunc)], .fn, false⟩ := tyOk_of (zs := [.nilFunc]) (by kernel_rfl) Tryz.underlying50 rfl trivial rfl rfl (by kernel_rfl) (by kernel_rfl) (by kernel_rfl)
theorem ty_51 : TyOk Tryz.prog 51 ⟨1, 8, [.v (.nilFunc)], .fn, false⟩ := tyOk_of (zs := [.nilFunc]) (by kernel_rfl) Tryz.underlying51 rfl trivial rfl rfl (by kernel_rfl) (by kernel_rfl) (by kernel_rfl)
theorem ty_52 : TyOk Tryz.prog 52 ⟨1, 24, [.v (.slice none 0 0)], .sl 44, false⟩ := tyOk_of (zs := [.slice none 0 0]) (by kernel_rfl) Tryz.underlying52 rfl rfl rfl rfl (by kernel_rfl) (by kernel_rfl) (by kernel_rfl)
theorem ty_53 : TyOk Tryz.prog 53 ⟨1, 8, [.v (.nilFunc)], .fn, false⟩ := tyOk_of (zs := [.nilFunc]) (by kernel_rfl) Tryz.underlying53 rfl trivial rfl rfl (by kernel_rfl) (by kernel_rfl) (by kernel_rfl)
theorem ty_54 : TyOk Tryz.prog 54 ⟨1, 24, [.v (.slice none 0 0)], .sl 9, false⟩ := tyOk_of (zs := [.slice none 0 0]) (by kernel_rfl) Tryz.underlying54 rfl rfl rfl rfl (by kernel_rfl) (by kernel_rfl) (by kernel_rfl)
theorem ty_55 : TyOk Tryz.prog 55 ⟨13, 152, [.v (.int .i64 0), .v (.int .i64 0), .v (.int .i64 0), .v (.string ⟨#[]⟩), .v (.slice none 0 0), .v (.slice none 0 0), .v (.int .i64 0), .v (.int .i64 0), .v (.int .i64 0), .v (.int .i64 0), .v (.string ⟨#[]⟩), .v (.int .i64 0), .v (.int .i64 0)], .st [(0, 2), (1, 3), (2, 3), (3, 9), (4, 54), (5, 54), (6, 3), (7, 3), (8, 3), (9, 3), (10, 9), (11, 3), (12, 3)], false⟩ := tyOk_of (zs := [.int .i64 0, .int .i64 0, .int .i64 0, .string ⟨#[]⟩, .slice none 0 0, .slice none 0 0, .int .i64 0, .int .i64 0, .int .i64 0, .int .i64 0, .string ⟨#[]⟩, .int .i64 0, .int .i64 0]) (by kernel_rfl) Tryz.underlying55 rfl rfl rfl rfl (by kernel_rfl) (by kernel_rfl) (by kernel_rfl)
theorem ty_56 : TyOk Tryz.prog 56 ⟨13, 152, [.v (.int .i64 0), .v (.int .i64 0), .v (.int .i64 0), .v (.string ⟨#[]⟩), .v (.slice none 0 0), .v (.slice none 0 0), .v (.int .i64 0), .v (.int .i64 0), .v (.int .i64 0), .v (.int .i64 0), .v (.string ⟨#[]⟩), .v (.int .i64 0), .v (.int .i64 0)], .st [(0, 2), (1, 3), (2, 3), (3, 9), (4, 54), (5, 54), (6, 3), (7, 3), (8, 3), (9, 3), (10, 9), (11, 3), (12, 3)], false⟩ := tyOk_of (zs := [.int .i64 0, .int .i64 0, .int .i64 0, .string ⟨#[]⟩, .slice none 0 0, .slice none 0 0, .int .i64 0, .int .i64 0, .int .i64 0, .int .i64 0, .string ⟨#[]⟩, .int .i64 0, .int .i64 0]) (by kernel_rfl) Tryz.underlying56 rfl rfl rfl rfl (by kernel_rfl) (by kernel_rfl) (by kernel_rfl)
theorem ty_58 : TyOk Tryz.prog 58 ⟨1, 8, [.v (.nilFunc)], .fn, false⟩ := tyOk_of (zs := [.nilFunc]) (by kernel_rfl) Tryz.underlying58 rfl trivial rfl rfl (by kernel_rfl) (by kernel_rfl) (by kernel_rfl)
theorem ty_67 : TyOk Tryz.prog 67 ⟨1, 24, [.v (.slice none 0 0)], .sl 5, false⟩ := tyOk_of (zs := [.slice none 0 0]) (by kernel_rfl) Tryz.underlying67 rfl rfl rfl rfl (by kernel_rfl) (by kernel_rfl) (by kernel_rfl)
theorem ty_69 : TyOk Tryz.prog 69 ⟨1, 4, [.v (.int .u32 0)], .int .u32, false⟩ := tyOk_of (zs := [.int .u32 0]) (by kernel_rfl) Tryz.underlying69 rfl rfl rfl rfl (by kernel_rfl) (by kernel_rfl) (by kernel_rfl)
theorem ty_70 : TyOk Tryz.prog 70 ⟨1, 4, [.v (.int .u32 0)], .int .u32, false⟩ := tyOk_of (zs := [.int .u32 0]) (by kernel_rfl) Tryz.underlying70 rfl rfl rfl rfl (by kernel_rfl) (by kernel_rfl) (by kernel_rfl)
theorem ty_78 : TyOk Tryz.prog 78 ⟨1, 8, [.v (.nilFunc)], .fn, false⟩ := tyOk_of (zs := [.nilFunc]) (by kernel_rfl) Tryz.underlying78 rfl trivial rfl rfl (by kernel_rfl) (by kernel_rfl) (by kernel_rfl)
theorem ty_79 : TyOk Tryz.prog 79 ⟨1, 8, [.v (.nilFunc)], .fn, false⟩ := tyOk_of (zs := [.nilFunc]) (by kernel_rfl) Tryz.underlying79 rfl trivial rfl rfl (by kernel_rfl) (by kernel_rfl) (by kernel_rfl)
theorem ty_81 : TyOk Tryz.prog 81 ⟨1, 8, [.v (.map none)], .mp 3 79, false⟩ := tyOk_of (zs := [.map none]) (by kernel_rfl) Tryz.underlying81 rfl ⟨rfl, rfl⟩ rfl rfl (by kernel_rfl) (by kernel_rfl) (by kernel_rfl)
theorem ty_83 : TyOk Tryz.prog 83 ⟨1, 8, [.v (.pointer none)], .ptr 35, false⟩ := tyOk_of (zs := [.pointer none]) (by kernel_rfl) Tryz.underlying83 rfl rfl rfl rfl (by kernel_rfl) (by kernel_rfl) (by kernel_rfl)
theorem ty_86 : TyOk Tryz.prog 86 ⟨1, 24, [.v (.slice none 0 0)], .sl 93, false⟩ := tyOk_of (zs := [.slice none 0 0]) (by kernel_rfl) Tryz.underlying86 rfl rfl rfl rfl (by kernel_rfl) (by kernel_rfl) (by kernel_rfl)
theorem ty_88 : TyOk Tryz.prog 88 ⟨1, 8, [.v (.nilFunc)], .fn, false⟩ := tyOk_of (zs := [.nilFunc]) (by kernel_rfl) Tryz.underlying88 rfl trivial rfl rfl (by kernel_rfl) (by kernel_rfl) (by kernel_rfl)
theorem ty_92 : TyOk Tryz.prog 92 ⟨4, 40, [.v (.string ⟨#[]⟩), .v (.int .i64 0), .v (.int .i64 0), .v (.int .i64 0)], .st [(0, 9), (1, 3), (2, 3), (3, 3)], true⟩ := tyOk_of (zs := [.string ⟨#[]⟩, .int .i64 0, .int .i64 0, .int .i64 0]) (by kernel_rfl) Tryz.underlying92 rfl rfl rfl rfl (by kernel_rfl) (by kernel_rfl) (by kernel_rfl)
theorem ty_93 : TyOk Tryz.prog 93 ⟨4, 40, [.v (.string ⟨#[]⟩), .v (.int .i64 0), .v (.int .i64 0), .v (.int .i64 0)], .st [(0, 9), (1, 3), (2, 3), (3, 3)], true⟩ := tyOk_of (zs := [.string ⟨#[]⟩, .int .i64 0, .int .i64 0, .int .i64 0]) (by kernel_rfl) Tryz.underlying93 rfl rfl rfl rfl (by kernel_rfl) (by kernel_rfl) (by kernel_rfl)
theorem ty_95 : TyOk Tryz.prog 95 ⟨1, 24, [.v (.slice none 0 0)], .sl 3, false⟩ := tyOk_of (zs := [.slice none 0 0]) (by kernel_rfl) Tryz.underlying95 rfl rfl rfl rfl (by kernel_rfl) (by kernel_rfl) (by kernel_rfl)
theorem ty_96 : TyOk Tryz.prog 96 ⟨3, 40, [.v (.slice none 0 0), .v (.bool false), .v (.int .i64 0)], .st [(0, 95), (1, 4), (2, 3)], false⟩ := tyOk_of (zs := [.slice none 0 0, .bool false, .int .i64 0]) (by kernel_rfl) Tryz.underlying96 rfl rfl rfl rfl (by kernel_rfl) (by kernel_rfl) (by kernel_rfl)
theorem ty_97 : TyOk Tryz.prog 97 ⟨3, 40, [.v (.slice none 0 0), .v (.bool false), .v (.int .i64 0)], .st [(0, 95), (1, 4), (2, 3)], false⟩ := tyOk_of (zs := [.slice none 0 0, .bool false, .int .i64 0]) (by kernel_rfl) Tryz.underlying97 rfl rfl rfl rfl (by kernel_rfl) (by kernel_rfl) (by kernel_rfl)
theorem ty_100 : TyOk Tryz.prog 100 ⟨1, 24, [.v (.slice none 0 0)], .sl 105, false⟩ := tyOk_of (zs := [.slice none 0 0]) (by kernel_rfl) Tryz.underlying100 rfl rfl rfl rfl (by kernel_rfl) (by kernel_rfl) (by kernel_rfl)
theorem ty_104 : TyOk Tryz.prog 104 ⟨4, 40, [.v (.string ⟨#[]⟩), .v (.int .i64 0), .v (.int .i64 0), .v (.int .i64 0)], .st [(0, 9), (1, 3), (2, 3), (3, 3)], true⟩ := tyOk_of (zs := [.string ⟨#[]⟩, .int .i64 0, .int .i64 0, .int .i64 0]) (by kernel_rfl) Tryz.underlying104 rfl rfl rfl rfl (by kernel_rfl) (by kernel_rfl) (by kernel_rfl)
theorem ty_105 : TyOk Tryz.prog 105 ⟨4, 40, [.v (.string ⟨#[]⟩), .v (.int .i64 0), .v (.int .i64 0), .v (.int .i64 0)], .st [(0, 9), (1, 3), (2, 3), (3, 3)], true⟩ := tyOk_of (zs := [.string ⟨#[]⟩, .int .i64 0, .int .i64 0, .int .i64 0]) (by kernel_rfl) Tryz.underlying105 rfl rfl rfl rfl (by kernel_rfl) (by kernel_rfl) (by kernel_rfl)
theorem ty_108 : TyOk Tryz.prog 108 ⟨3, 40, [.v (.slice none 0 0), .v (.bool false), .v (.int .i64 0)], .st [(0, 95), (1, 4), (2, 3)], false⟩ := tyOk_of (zs := [.slice none 0 0, .bool false, .int .i64 0]) (by kernel_rfl) Tryz.underlying108 rfl rfl rfl rfl (by kernel_rfl) (by kernel_rfl) (by kernel_rfl)
theorem ty_120 : TyOk Tryz.prog 120 ⟨3, 48, [.v (.string ⟨#[]⟩), .v (.string ⟨#[]⟩), .v (.string ⟨#[]⟩)], .st [(0, 9), (1, 9), (2, 9)], true⟩ := tyOk_of (zs := [.string ⟨#[]⟩, .string ⟨#[]⟩, .string ⟨#[]⟩]) (by kernel_rfl) Tryz.underlying120 rfl rfl rfl rfl (by kernel_rfl) (by kernel_rfl) (by kernel_rfl)
theorem ty_121 : TyOk Tryz.prog 121 ⟨3, 48, [.v (.string ⟨#[]⟩), .v (.string ⟨#[]⟩), .v (.string ⟨#[]⟩)], .st [(0, 9), (1, 9), (2, 9)], true⟩ := tyOk_of (zs := [.string ⟨#[]⟩, .string ⟨#[]⟩, .string ⟨#[]⟩]) (by kernel_rfl) Tryz.underlying121 rfl rfl rfl rfl (by kernel_rfl) (by kernel_rfl) (by kernel_rfl)
theorem ty_125 : TyOk Tryz.prog 125 ⟨1, 8, [.v (.nilFunc)], .fn, false⟩ := tyOk_of (zs := [.nilFunc]) (by kernel_rfl) Tryz.underlying125 rfl trivial rfl rfl (by kernel_rfl) (by kernel_rfl) (by kernel_rfl)
theorem ty_126 : TyOk Tryz.prog 126 ⟨1, 8, [.v (.nilFunc)], .fn, false⟩ := tyOk_of (zs := [.nilFunc]) (by kernel_rfl) Tryz.underlying126 rfl trivial rfl rfl (by kernel_rfl) (by kernel_rfl) (by kernel_rfl)
theorem ty_127 : TyOk Tryz.prog 127 ⟨1, 8, [.v (.nilFunc)], .fn, false⟩ := tyOk_of (zs := [.nilFunc]) (by kernel_rfl) Tryz.underlying127 rfl trivial rfl rfl (by kernel_rfl) (by kernel_rfl) (by kernel_rfl)
theorem ty_128 : TyOk Tryz.prog 128 ⟨1, 8, [.v (.nilFunc)], .fn, false⟩ := tyOk_of (zs := [.nilFunc]) (by kernel_rfl) Tryz.underlying128 rfl trivial rfl rfl (by kernel_rfl) (by kernel_rfl) (by kernel_rfl)
theorem ty_129 : TyOk Tryz.prog 129 ⟨1, 8, [.v (.nilFunc)], .fn, false⟩ := tyOk_of (zs := [.nilFunc]) (by kernel_rfl) Tryz.underlying129 rfl trivial rfl rfl (by kernel_rfl) (by kernel_rfl) (by kernel_rfl)
theorem ty_130 : TyOk Tryz.prog 130 ⟨1, 8, [.v (.nilFunc)], .fn, false⟩ := tyOk_of (zs := [.nilFunc]) (by kernel_rfl) Tryz.underlying130 rfl trivial rfl rfl (by kernel_rfl) (by kernel_rfl) (by kernel_rfl)
theorem ty_140 : TyOk Tryz.prog 140 ⟨90, 1440, List.replicate 90 (.v (.string ⟨#[]⟩)), .arr 30 121, false⟩ := tyOk_of (zs := List.replicate 90 (.string ⟨#[]⟩)) (by kernel_rfl) Tryz.underlying140 List.map_replicate ⟨rfl, rfl⟩ List.length_replicate rfl (by kernel_rfl) (by kernel_rfl) (by kernel_rfl)
theorem ty_142 : TyOk Tryz.prog 142 ⟨177, 2832, List.replicate 177 (.v (.string ⟨#[]⟩)), .arr 59 121, false⟩ := tyOk_of (zs := List.replicate 177 (.string ⟨#[]⟩)) (by kernel_rfl) Tryz.underlying142 List.map_replicate ⟨rfl, rfl⟩ List.length_replicate rfl (by kernel_rfl) (by kernel_rfl) (by kernel_rfl)
theorem ty_147 : TyOk Tryz.prog 147 ⟨78, 1248, List.replicate 78 (.v (.string ⟨#[]⟩)), .arr 26 121, false⟩ := tyOk_of (zs := List.replicate 78 (.string ⟨#[]⟩)) (by kernel_rfl) Tryz.underlying147 List.map_replicate ⟨rfl, rfl⟩ List.length_replicate rfl (by kernel_rfl) (by kernel_rfl) (by kernel_rfl)
theorem ty_152 : TyOk Tryz.prog 152 ⟨3, 40, [.v (.int .i64 0), .v (.string ⟨#[]⟩), .v (.string ⟨#[]⟩)], .st [(0, 3), (1, 9), (2, 9)], true⟩ := tyOk_of (zs := [.int .i64 0, .string ⟨#[]⟩, .string ⟨#[]⟩]) (by kernel_rfl) Tryz.underlying152 rfl rfl rfl rfl (by kernel_rfl) (by kernel_rfl) (by kernel_rfl)
theorem ty_153 : TyOk Tryz.prog 153 ⟨3, 40, [.v (.int .i64 0), .v (.string ⟨#[]⟩), .v (.string ⟨#[]⟩)], .st [(0, 3), (1, 9), (2, 9)], true⟩ := tyOk_of (zs := [.int .i64 0, .string ⟨#[]⟩, .string ⟨#[]⟩]) (by kernel_rfl) Tryz.underlying153 rfl rfl rfl rfl (by kernel_rfl) (by kernel_rfl) (by kernel_rfl)
theorem ty_154 : TyOk Tryz.prog 154 ⟨1, 8, [.v (.pointer none)], .ptr 25, false⟩ := tyOk_of (zs := [.pointer none]) (by kernel_rfl) Tryz.underlying154 rfl rfl rfl rfl (by kernel_rfl) (by kernel_rfl) (by kernel_rfl)
theorem ty_159 : TyOk Tryz.prog 159 ⟨1, 8, [.v (.map none)], .mp 3 47, false⟩ := tyOk_of (zs := [.map none]) (by kernel_rfl) Tryz.underlying159 rfl ⟨rfl, rfl⟩ rfl rfl (by kernel_rfl) (by kernel_rfl) (by kernel_rfl)
theorem ty_161 : TyOk Tryz.prog 161 ⟨256, 256, List.replicate 256 (.v (.int .u8 0)), .arr 256 5, false⟩ := tyOk_of (zs := List.replicate 256 (.int .u8 0)) (by kernel_rfl) Tryz.underlying161 List.map_replicate ⟨rfl, rfl⟩ List.length_replicate rfl (by kernel_rfl) (by kernel_rfl) (by kernel_rfl)
theorem ty_163 : TyOk Tryz.prog 163 ⟨1, 8, [.v (.nilFunc)], .fn, false⟩ := tyOk_of (zs := [.nilFunc]) (by kernel_rfl) Tryz.underlying163 rfl trivial rfl rfl (by kernel_rfl) (by kernel_rfl) (by kernel_rfl)
theorem ty_168 : TyOk Tryz.prog 168 ⟨1, 24, [.v (.slice none 0 0)], .sl 170, false⟩ := tyOk_of (zs := [.slice none 0 0]) (by kernel_rfl) Tryz.underlying168 rfl rfl rfl rfl (by kernel_rfl) (by kernel_rfl) (by kernel_rfl)
theorem ty_169 : TyOk Tryz.prog 169 ⟨2, 16, [.v (.int .i64 0), .v (.int .i64 0)], .st [(0, 3), (1, 3)], true⟩ := tyOk_of (zs := [.int .i64 0, .int .i64 0]) (by kernel_rfl) Tryz.underlying169 rfl rfl rfl rfl (by kernel_rfl) (by kernel_rfl) (by kernel_rfl)
theorem ty_170 : TyOk Tryz.prog 170 ⟨2, 16, [.v (.int .i64 0), .v (.int .i64 0)], .st [(0, 3), (1, 3)], true⟩ := tyOk_of (zs := [.int .i64 0, .int .i64 0]) (by kernel_rfl) Tryz.underlying170 rfl rfl rfl rfl (by kernel_rfl) (by kernel_rfl) (by kernel_rfl)
theorem ty_172 : TyOk Tryz.prog 172 ⟨1, 8, [.v (.pointer none)], .ptr 186, false⟩ := tyOk_of (zs := [.pointer none]) (by kernel_rfl) Tryz.underlying172 rfl rfl rfl rfl (by kernel_rfl) (by kernel_rfl) (by kernel_rfl)
theorem ty_174 : TyOk Tryz.prog 174 ⟨256, 256, List.replicate 256 (.v (.bool false)), .arr 256 4, false⟩ := tyOk_of (zs := List.replicate 256 (.bool false)) (by kernel_rfl) Tryz.underlying174 List.map_replicate ⟨rfl, rfl⟩ List.length_replicate rfl (by kernel_rfl) (by kernel_rfl) (by kernel_rfl)
theorem ty_175 : TyOk Tryz.prog 175 ⟨256, 256, List.replicate 256 (.v (.bool false)), .arr 256 4, false⟩ := tyOk_of (zs := List.replicate 256 (.bool false)) (by kernel_rfl) Tryz.underlying175 List.map_replicate ⟨rfl, rfl⟩ List.length_replicate rfl (by kernel_rfl) (by kernel_rfl) (by kernel_rfl)
theorem ty_180 : TyOk Tryz.prog 180 ⟨1, 8, [.v (.int .u64 0)], .int .u64, false⟩ := tyOk_of (zs := [.int .u64 0]) (by kernel_rfl) Tryz.underlying180 rfl rfl rfl rfl (by kernel_rfl) (by kernel_rfl) (by kernel_rfl)
theorem ty_183 : TyOk Tryz.prog 183 ⟨1, 24, [.v (.slice none 0 0)], .sl 189, false⟩ := tyOk_of (zs := [.slice none 0 0]) (by kernel_rfl) Tryz.underlying183 rfl rfl rfl rfl (by kernel_rfl) (by kernel_rfl) (by kernel_rfl)
theorem ty_184 : TyOk Tryz.prog 184 ⟨1, 24, [.v (.slice none 0 0)], .sl 192, false⟩ := tyOk_of (zs := [.slice none 0 0]) (by kernel_rfl) Tryz.underlying184 rfl rfl rfl rfl (by kernel_rfl) (by kernel_rfl) (by kernel_rfl)
theorem ty_185 : TyOk Tryz.prog 185 ⟨3, 56, [.v (.slice none 0 0), .v (.slice none 0 0), .v (.int .i64 0)], .st [(0, 183), (1, 184), (2, 3)], false⟩ := tyOk_of (zs := [.slice none 0 0, .slice none 0 0, .int .i64 0]) (by kernel_rfl) Tryz.underlying185 rfl rfl rfl rfl (by kernel_rfl) (by kernel_rfl) (by kernel_rfl)
theorem ty_186 : TyOk Tryz.prog 186 ⟨3, 56, [.v (.slice none 0 0), .v (.slice none 0 0), .v (.int .i64 0)], .st [(0, 183), (1, 184), (2, 3)], false⟩ := tyOk_of (zs := [.slice none 0 0, .slice none 0 0, .int .i64 0]) (by kernel_rfl) Tryz.underlying186 rfl rfl rfl rfl (by kernel_rfl) (by kernel_rfl) (by kernel_rfl)
theorem ty_187 : TyOk Tryz.prog 187 ⟨1, 2, [.v (.int .u16 0)], .int .u16, false⟩ := tyOk_of (zs := [.int .u16 0]) (by kernel_rfl) Tryz.underlying187 rfl rfl rfl rfl (by kernel_rfl) (by kernel_rfl) (by kernel_rfl)
theorem ty_188 : TyOk Tryz.prog 188 ⟨3, 6, [.v (.int .u16 0), .v (.int .u16 0), .v (.int .u16 0)], .st [(0, 187), (1, 187), (2, 187)], true⟩ := tyOk_of (zs := [.int .u16 0, .int .u16 0, .int .u16 0]) (by kernel_rfl) Tryz.underlying188 rfl rfl rfl rfl (by kernel_rfl) (by kernel_rfl) (by kernel_rfl)
theorem ty_189 : TyOk Tryz.prog 189 ⟨3, 6, [.v (.int .u16 0), .v (.int .u16 0), .v (.int .u16 0)], .st [(0, 187), (1, 187), (2, 187)], true⟩ := tyOk_of (zs := [.int .u16 0, .int .u16 0, .int .u16 0]) (by kernel_rfl) Tryz.underlying189 rfl rfl rfl rfl (by kernel_rfl) (by kernel_rfl) (by kernel_rfl)
theorem ty_191 : TyOk Tryz.prog 191 ⟨3, 12, [.v (.int .u32 0), .v (.int .u32 0), .v (.int .u32 0)], .st [(0, 69), (1, 69), (2, 69)], true⟩ := tyOk_of (zs := [.int .u32 0, .int .u32 0, .int .u32 0]) (by kernel_rfl) Tryz.underlying191 rfl rfl rfl rfl (by kernel_rfl) (by kernel_rfl) (by kernel_rfl)
theorem ty_192 : TyOk Tryz.prog 192 ⟨3, 12, [.v (.int .u32 0), .v (.int .u32 0), .v (.int .u32 0)], .st [(0, 69), (1, 69), (2, 69)], true⟩ := tyOk_of (zs := [.int .u32 0, .int .u32 0, .int .u32 0]) (by kernel_rfl) Tryz.underlying192 rfl rfl rfl rfl (by kernel_rfl) (by kernel_rfl) (by kernel_rfl)
theorem ty_194 : TyOk Tryz.prog 194 ⟨1, 8, [.v (.pointer none)], .ptr 175, false⟩ := tyOk_of (zs := [.pointer none]) (by kernel_rfl) Tryz.underlying194 rfl rfl rfl rfl (by kernel_rfl) (by kernel_rfl) (by kernel_rfl)
theorem ty_197 : TyOk Tryz.prog 197 ⟨1, 8, [.v (.pointer none)], .ptr 189, false⟩ := tyOk_of (zs := [.pointer none]) (by kernel_rfl) Tryz.underlying197 rfl rfl rfl rfl (by kernel_rfl) (by kernel_rfl) (by kernel_rfl)
theorem ty_198 : TyOk Tryz.prog 198 ⟨1, 8, [.v (.pointer none)], .ptr 192, false⟩ := tyOk_of (zs := [.pointer none]) (by kernel_rfl) Tryz.underlying198 rfl rfl rfl rfl (by kernel_rfl) (by kernel_rfl) (by kernel_rfl)
theorem ty_199 : TyOk Tryz.prog 199 ⟨4, 40, [.v (.pointer none), .v (.pointer none), .v (.pointer none), .v (.string ⟨#[]⟩)], .st [(0, 17), (1, 17), (2, 17), (3, 9)], false⟩ := tyOk_of (zs := [.pointer none, .pointer none, .pointer none, .string ⟨#[]⟩]) (by kernel_rfl) Tryz.underlying199 rfl rfl rfl rfl (by kernel_rfl) (by kernel_rfl) (by kernel_rfl)
theorem ty_200 : TyOk Tryz.prog 200 ⟨4, 40, [.v (.pointer none), .v (.pointer none), .v (.pointer none), .v (.string ⟨#[]⟩)], .st [(0, 17), (1, 17), (2, 17), (3, 9)], false⟩ := tyOk_of (zs := [.pointer none, .pointer none, .pointer none, .string ⟨#[]⟩]) (by kernel_rfl) Tryz.underlying200 rfl rfl rfl rfl (by kernel_rfl) (by kernel_rfl) (by kernel_rfl)
theorem ty_201 : TyOk Tryz.prog 201 ⟨0, 0, [], .arr 0 16, false⟩ := tyOk_of (zs := []) (by kernel_rfl) Tryz.underlying201 rfl ⟨rfl, rfl⟩ rfl rfl (by kernel_rfl) (by kernel_rfl) (by kernel_rfl)
theorem ty_202 : TyOk Tryz.prog 202 ⟨0, 0, [], .st [(0, 201)], false⟩ := tyOk_of (zs := []) (by kernel_rfl) Tryz.underlying202 rfl rfl rfl rfl (by kernel_rfl) (by kernel_rfl) (by kernel_rfl)
theorem ty_203 : TyOk Tryz.prog 203 ⟨0, 0, [], .st [(0, 201)], false⟩ := tyOk_of (zs := []) (by kernel_rfl) Tryz.underlying203 rfl rfl rfl rfl (by kernel_rfl) (by kernel_rfl) (by kernel_rfl)
theorem ty_204 : TyOk Tryz.prog 204 ⟨1, 1, [.v (.int .u8 0)], .int .u8, false⟩ := tyOk_of (zs := [.int .u8 0]) (by kernel_rfl) Tryz.underlying204 rfl rfl rfl rfl (by kernel_rfl) (by kernel_rfl) (by kernel_rfl)
theorem ty_205 : TyOk Tryz.prog 205 ⟨1, 1, [.v (.int .u8 0)], .int .u8, false⟩ := tyOk_of (zs := [.int .u8 0]) (by kernel_rfl) Tryz.underlying205 rfl rfl rfl rfl (by kernel_rfl) (by kernel_rfl) (by kernel_rfl)
theorem ty_207 : TyOk Tryz.prog 207 ⟨1, 8, [.v (.pointer none)], .ptr 5, false⟩ := tyOk_of (zs := [.pointer none]) (by kernel_rfl) Tryz.underlying207 rfl rfl rfl rfl (by kernel_rfl) (by kernel_rfl) (by kernel_rfl)
theorem ty_208 : TyOk Tryz.prog 208 ⟨1, 4, [.v (.int .i32 0)], .int .i32, false⟩ := tyOk_of (zs := [.int .i32 0]) (by kernel_rfl) Tryz.underlying208 rfl rfl rfl rfl (by kernel_rfl) (by kernel_rfl) (by kernel_rfl)
theorem ty_209 : TyOk Tryz.prog 209 ⟨1, 4, [.v (.int .i32 0)], .int .i32, false⟩ := tyOk_of (zs := [.int .i32 0]) (by kernel_rfl) Tryz.underlying209 rfl rfl rfl rfl (by kernel_rfl) (by kernel_rfl) (by kernel_rfl)
theorem ty_210 : TyOk Tryz.prog 210 ⟨11, 48, [.v (.int .u64 0), .v (.int .u64 0), .v (.int .u32 0), .v (.int .u8 0), .v (.int .u8 0), .v (.int .u8 0), .v (.int .u8 0), .v (.nilFunc), .v (.pointer none), .v (.int .i32 0), .v (.int .i32 0)], .st [(0, 12), (1, 12), (2, 69), (3, 204), (4, 5), (5, 5), (6, 205), (7, 206), (8, 207), (9, 208), (10, 209)], false⟩ := tyOk_of (zs := [.int .u64 0, .int .u64 0, .int .u32 0, .int .u8 0, .int .u8 0, .int .u8 0, .int .u8 0, .nilFunc, .pointer none, .int .i32 0, .int .i32 0]) (by kernel_rfl) Tryz.underlying210 rfl rfl rfl rfl (by kernel_rfl) (by kernel_rfl) (by kernel_rfl)
theorem ty_211 : TyOk Tryz.prog 211 ⟨11, 48, [.v (.int .u64 0), .v (.int .u64 0), .v (.int .u32 0), .v (.int .u8 0), .v (.int .u8 0), .v (.int .u8 0), .v (.int .u8 0), .v (.nilFunc), .v (.pointer none), .v (.int .i32 0), .v (.int .i32 0)], .st [(0, 12), (1, 12), (2, 69), (3, 204), (4, 5), (5, 5), (6, 205), (7, 206), (8, 207), (9, 208), (10, 209)], false⟩ := tyOk_of (zs := [.int .u64 0, .int .u64 0, .int .u32 0, .int .u8 0, .int .u8 0, .int .u8 0, .int .u8 0, .nilFunc, .pointer none, .int .i32 0, .int .i32 0]) (by kernel_rfl) Tryz.underlying211 rfl rfl rfl rfl (by kernel_rfl) (by kernel_rfl) (by kernel_rfl)
theorem ty_212 : TyOk Tryz.prog 212 ⟨1, 8, [.v (.pointer none)], .oth, false⟩ := tyOk_of (zs := [.pointer none]) (by kernel_rfl) Tryz.underlying212 rfl trivial rfl rfl (by kernel_rfl) (by kernel_rfl) (by kernel_rfl)
def tabc_0 : Nat → Option TyI
  | 1 => some ⟨1, 8, [.v (.nilFunc)], .fn, false⟩
  | 2 => some ⟨1, 8, [.v (.int .i64 0)], .int .i64, false⟩
  | 3 => some ⟨1, 8, [.v (.int .i64 0)], .int .i64, false⟩
  | 4 => some ⟨1, 1, [.v (.bool false)], .bool, false⟩
  | 5 => some ⟨1, 1, [.v (.int .u8 0)], .int .u8, false⟩
  | 6 => some ⟨1, 1, [.v (.int .u8 0)], .int .u8, false⟩
  | 7 => some ⟨4, 24, [.v (.int .i64 0), .v (.int .i64 0), .v (.bool false), .v (.int .u8 0)], .st [(0, 2), (1, 3), (2, 4), (3, 6)], false⟩
  | 8 => some ⟨4, 24, [.v (.int .i64 0), .v (.int .i64 0), .v (.bool false), .v (.int .u8 0)], .st [(0, 2), (1, 3), (2, 4), (3, 6)], false⟩
  | 9 => some ⟨1, 16, [.v (.string ⟨#[]⟩)], .str, false⟩
  | 10 => some ⟨1, 16, [.v (.string ⟨#[]⟩)], .str, false⟩
  | 11 => some ⟨1, 16, [.v (.string ⟨#[]⟩)], .str, false⟩
  | 12 => some ⟨1, 8, [.v (.int .u64 0)], .int .u64, false⟩
  | 13 => some ⟨2, 24, [.v (.string ⟨#[]⟩), .v (.int .u64 0)], .st [(0, 9), (1, 12)], false⟩
  | 14 => some ⟨2, 24, [.v (.string ⟨#[]⟩), .v (.int .u64 0)], .st [(0, 9), (1, 12)], false⟩
  | 15 => some ⟨1, 8, [.v (.pointer none)], .ptr 200, false⟩
  | 16 => some ⟨1, 8, [.v (.pointer none)], .ptr 203, false⟩
  | 17 => some ⟨1, 8, [.v (.pointer none)], .ptr 211, false⟩
  | 18 => some ⟨1, 8, [.v (.pointer none)], .st [(0, 17)], false⟩
  | 19 => some ⟨1, 8, [.v (.pointer none)], .st [(0, 17)], false⟩
  | 21 => some ⟨1, 4, [.v (.int .i32 0)], .int .i32, false⟩
  | 22 => some ⟨1, 8, [.v (.nilFunc)], .fn, false⟩
  | 23 => some ⟨1, 8, [.v (.nilFunc)], .fn, false⟩
  | 24 => some ⟨2, 16, [.v (.int .i64 0), .v (.int .i64 0)], .st [(0, 3), (1, 3)], true⟩
  | 25 => some ⟨2, 16, [.v (.int .i64 0), .v (.int .i64 0)], .st [(0, 3), (1, 3)], true⟩
  | 26 => some ⟨1, 24, [.v (.slice none 0 0)], .sl 153, false⟩
  | 27 => some ⟨1, 24, [.v (.slice none 0 0)], .st [(0, 26)], false⟩
  | 28 => some ⟨1, 24, [.v (.slice none 0 0)], .st [(0, 26)], false⟩
  | 29 => some ⟨1, 24, [.v (.slice none 0 0)], .st [(0, 28)], false⟩
  | 30 => some ⟨1, 24, [.v (.slice none 0 0)], .st [(0, 28)], false⟩
  | 31 => some ⟨1, 24, [.v (.slice none 0 0)], .st [(0, 28)], false⟩
  | 32 => some ⟨3, 64, [.v (.slice none 0 0), .v (.slice none 0 0), .v (.string ⟨#[]⟩)], .st [(0, 30), (1, 31), (2, 9)], false⟩
  | 33 => some ⟨3, 64, [.v (.slice none 0 0), .v (.slice none 0 0), .v (.string ⟨#[]⟩)], .st [(0, 30), (1, 31), (2, 9)], false⟩
  | 34 => some ⟨16, 176, [.v (.int .i64 0), .v (.int .i64 0), .v (.bool false), .v (.int .i64 0), .v (.int .i64 0), .v (.int .i64 0), .v (.int .i64 0), .v (.int .i64 0), .v (.slice none 0 0), .v (.slice none 0 0), .v (.string ⟨#[]⟩), .v (.int .i64 0), .v (.int .i64 0), .v (.string ⟨#[]⟩), .v (.int .i64 0), .v (.int .i64 0)], .st [(0, 25), (2, 4), (3, 2), (4, 2), (5, 2), (6, 3), (7, 3), (8, 33), (11, 3), (12, 3), (13, 9), (14, 3), (15, 3)], false⟩
  | 35 => some ⟨16, 176, [.v (.int .i64 0), .v (.int .i64 0), .v (.bool false), .v (.int .i64 0), .v (.int .i64 0), .v (.int .i64 0), .v (.int .i64 0), .v (.int .i64 0), .v (.slice none 0 0), .v (.slice none 0 0), .v (.string ⟨#[]⟩), .v (.int .i64 0), .v (.int .i64 0), .v (.string ⟨#[]⟩), .v (.int .i64 0), .v (.int .i64 0)], .st [(0, 25), (2, 4), (3, 2), (4, 2), (5, 2), (6, 3), (7, 3), (8, 33), (11, 3), (12, 3), (13, 9), (14, 3), (15, 3)], false⟩
  | 36 => some ⟨1, 24, [.v (.slice none 0 0)], .sl 49, false⟩
  | 37 => some ⟨1, 8, [.v (.int .i64 0)], .int .i64, false⟩
  | 39 => some ⟨1, 8, [.v (.nilFunc)], .fn, false⟩
  | 41 => some ⟨1, 8, [.v (.nilFunc)], .fn, false⟩
  | 42 => some ⟨1, 24, [.v (.slice none 0 0)], .sl 2, false⟩
  | 43 => some ⟨6, 88, [.v (.int .i64 0), .v (.int .i64 0), .v (.int .i64 0), .v (.slice none 0 0), .v (.string ⟨#[]⟩), .v (.slice none 0 0)], .st [(0, 3), (1, 3), (2, 3), (3, 42), (4, 9), (5, 42)], false⟩
  | _ => none
theorem tabc_ok_0 : TabOk Tryz.prog tabc_0 := by
  intro t i h
  unfold tabc_0 at h
  split at h
  · exact Option.some.inj h ▸ ty_1
  · exact Option.some.inj h ▸ ty_2
  · exact Option.some.inj h ▸ ty_3
  · exact Option.some.inj h ▸ ty_4
  · exact Option.some.inj h ▸ ty_5
  · exact Option.some.inj h ▸ ty_6
  · exact Option.some.inj h ▸ ty_7
  · exact Option.some.inj h ▸ ty_8
  · exact Option.some.inj h ▸ ty_9
  · exact Option.some.inj h ▸ ty_10
  · exact Option.some.inj h ▸ ty_11
  · exact Option.some.inj h ▸ ty_12
  · exact Option.some.inj h ▸ ty_13
  · exact Option.some.inj h ▸ ty_14
  · exact Option.some.inj h ▸ ty_15
  · exact Option.some.inj h ▸ ty_16
  · exact Option.some.inj h ▸ ty_17
  · exact Option.some.inj h ▸ ty_18
  · exact Option.some.inj h ▸ ty_19
  · exact Option.some.inj h ▸ ty_21
  · exact Option.some.inj h ▸ ty_22
  · exact Option.some.inj h ▸ ty_23
  · exact Option.some.inj h ▸ ty_24
  · exact Option.some.inj h ▸ ty_25
  · exact Option.some.inj h ▸ ty_26
  · exact Option.some.inj h ▸ ty_27
  · exact Option.some.inj h ▸ ty_28
  · exact Option.some.inj h ▸ ty_29
  · exact Option.some.inj h ▸ ty_30
  · exact Option.some.inj h ▸ ty_31
  · exact Option.some.inj h ▸ ty_32
  · exact Option.some.inj h ▸ ty_33
  · exact Option.some.inj h ▸ ty_34
  · exact Option.some.inj h ▸ ty_35
  · exact Option.some.inj h ▸ ty_36
  · exact Option.some.inj h ▸ ty_37
  · exact Option.some.inj h ▸ ty_39
  · exact Option.some.inj h ▸ ty_41
  · exact Option.some.inj h ▸ ty_42
  · exact Option.some.inj h ▸ ty_43
  · cases h
def tabc_1 : Nat → Option TyI
  | 44 => some ⟨6, 88, [.v (.int .i64 0), .v (.int .i64 0), .v (.int .i64 0), .v (.slice none 0 0), .v (.string ⟨#[]⟩), .v (.slice none 0 0)], .st [(0, 3), (1, 3), (2, 3), (3, 42), (4, 9), (5, 42)], false⟩
  | 45 => some ⟨1, 8, [.v (.nilFunc)], .fn, false⟩
  | 46 => some ⟨1, 8, [.v (.nilFunc)], .fn, false⟩
  | 47 => some ⟨1, 8, [.v (.nilFunc)], .fn, false⟩
  | 48 => some ⟨4, 72, [.v (.int .i64 0), .v (.slice none 0 0), .v (.string ⟨#[]⟩), .v (.slice none 0 0)], .st [(0, 3), (1, 42), (2, 9), (3, 42)], false⟩
  | 49 => some ⟨4, 72, [.v (.int .i64 0), .v (.slice none 0 0), .v (.string ⟨#[]⟩), .v (.slice none 0 0)], .st [(0, 3), (1, 42), (2, 9), (3, 42)], false⟩
  | 50 => some ⟨1, 8, [.v (.nilFunc)], .fn, false⟩
  | 51 => some ⟨1, 8, [.v (.nilFunc)], .fn, false⟩
  | 52 => some ⟨1, 24, [.v (.slice none 0 0)], .sl 44, false⟩
  | 53 => some ⟨1, 8, [.v (.nilFunc)], .fn, false⟩
  | 54 => some ⟨1, 24, [.v (.slice none 0 0)], .sl 9, false⟩
  | 55 => some ⟨13, 152, [.v (.int .i64 0), .v (.int .i64 0), .v (.int .i64 0), .v (.string ⟨#[]⟩), .v (.slice none 0 0), .v (.slice none 0 0), .v (.int .i64 0), .v (.int .i64 0), .v (.int .i64 0), .v (.int .i64 0), .v (.string ⟨#[]⟩), .v (.int .i64 0), .v (.int .i64 0)], .st [(0, 2), (1, 3), (2, 3), (3, 9), (4, 54), (5, 54), (6, 3), (7, 3), (8, 3), (9, 3), (10, 9), (11, 3), (12, 3)], false⟩
  | 56 => some ⟨13, 152, [.v (.int .i64 0), .v (.int .i64 0), .v (.int .i64 0), .v (.string ⟨#[]⟩), .v (.slice none 0 0), .v (.slice none 0 0), .v (.int .i64 0), .v (.int .i64 0), .v (.int .i64 0), .v (.int .i64 0), .v (.string ⟨#[]⟩), .v (.int .i64 0), .v (.int .i64 0)], .st [(0, 2), (1, 3), (2, 3), (3, 9), (4, 54), (5, 54), (6, 3), (7, 3), (8, 3), (9, 3), (10, 9), (11, 3), (12, 3)], false⟩
  | 58 => some ⟨1, 8, [.v (.nilFunc)], .fn, false⟩
  | 67 => some ⟨1, 24, [.v (.slice none 0 0)], .sl 5, false⟩
  | 69 => some ⟨1, 4, [.v (.int .u32 0)], .int .u32, false⟩
  | 70 => some ⟨1, 4, [.v (.int .u32 0)], .int .u32, false⟩
  | 78 => some ⟨1, 8, [.v (.nilFunc)], .fn, false⟩
  | 79 => some ⟨1, 8, [.v (.nilFunc)], .fn, false⟩
  | 81 => some ⟨1, 8, [.v (.map none)], .mp 3 79, false⟩
  | 83 => some ⟨1, 8, [.v (.pointer none)], .ptr 35, false⟩
  | 86 => some ⟨1, 24, [.v (.slice none 0 0)], .sl 93, false⟩
  | 88 => some ⟨1, 8, [.v (.nilFunc)], .fn, false⟩
  | 92 => some ⟨4, 40, [.v (.string ⟨#[]⟩), .v (.int .i64 0), .v (.int .i64 0), .v (.int .i64 0)], .st [(0, 9), (1, 3), (2, 3), (3, 3)], true⟩
  | 93 => some ⟨4, 40, [.v (.string ⟨#[]⟩), .v (.int .i64 0), .v (.int .i64 0), .v (.int .i64 0)], .st [(0, 9), (1, 3), (2, 3), (3, 3)], true⟩
  | 95 => some ⟨1, 24, [.v (.slice none 0 0)], .sl 3, false⟩
  | 96 => some ⟨3, 40, [.v (.slice none 0 0), .v (.bool false), .v (.int .i64 0)], .st [(0, 95), (1, 4), (2, 3)], false⟩
  | 97 => some ⟨3, 40, [.v (.slice none 0 0), .v (.bool false), .v (.int .i64 0)], .st [(0, 95), (1, 4), (2, 3)], false⟩
  | 100 => some ⟨1, 24, [.v (.slice none 0 0)], .sl 105, false⟩
  | 104 => some ⟨4, 40, [.v (.string ⟨#[]⟩), .v (.int .i64 0), .v (.int .i64 0), .v (.int .i64 0)], .st [(0, 9), (1, 3), (2, 3), (3, 3)], true⟩
  | 105 => some ⟨4, 40, [.v (.string ⟨#[]⟩), .v (.int .i64 0), .v (.int .i64 0), .v (.int .i64 0)], .st [(0, 9), (1, 3), (2, 3), (3, 3)], true⟩
  | 108 => some ⟨3, 40, [.v (.slice none 0 0), .v (.bool false), .v (.int .i64 0)], .st [(0, 95), (1, 4), (2, 3)], false⟩
  | 120 => some ⟨3, 48, [.v (.string ⟨#[]⟩), .v (.string ⟨#[]⟩), .v (.string ⟨#[]⟩)], .st [(0, 9), (1, 9), (2, 9)], true⟩
  | 121 => some ⟨3, 48, [.v (.string ⟨#[]⟩), .v (.string ⟨#[]⟩), .v (.string ⟨#[]⟩)], .st [(0, 9), (1, 9), (2, 9)], true⟩
  | 125 => some ⟨1, 8, [.v (.nilFunc)], .fn, false⟩
  | 126 => some ⟨1, 8, [.v (.nilFunc)], .fn, false⟩
  | 127 => some ⟨1, 8, [.v (.nilFunc)], .fn, false⟩
  | 128 => some ⟨1, 8, [.v (.nilFunc)], .fn, false⟩
  | 129 => some ⟨1, 8, [.v (.nilFunc)], .fn, false⟩
  | 130 => some ⟨1, 8, [.v (.nilFunc)], .fn, false⟩
  | _ => none
theorem tabc_ok_1 : TabOk Tryz.prog tabc_1 := by
  intro t i h
  unfold tabc_1 at h
  split at h
  · exact Option.some.inj h ▸ ty_44
  · exact Option.some.inj h ▸ ty_45
  · exact Option.some.inj h ▸ ty_46
  · exact Option.some.inj h ▸ ty_47
  · exact Option.some.inj h ▸ ty_48
  · exact Option.some.inj h ▸ ty_49
  · exact Option.some.inj h ▸ ty_50
  · exact Option.some.inj h ▸ ty_51
  · exact Option.some.inj h ▸ ty_52
  · exact Option.some.inj h ▸ ty_53
  · exact Option.some.inj h ▸ ty_54
  · exact Option.some.inj h ▸ ty_55
  · exact Option.some.inj h ▸ ty_56
  · exact Option.some.inj h ▸ ty_58
  · exact Option.some.inj h ▸ ty_67
  · exact Option.some.inj h ▸ ty_69
  · exact Option.some.inj h ▸ ty_70
  · exact Option.some.inj h ▸ ty_78
  · exact Option.some.inj h ▸ ty_79
  · exact Option.some.inj h ▸ ty_81
  · exact Option.some.inj h ▸ ty_83
  · exact Option.some.inj h ▸ ty_86
  · exact Option.some.inj h ▸ ty_88
  · exact Option.some.inj h ▸ ty_92
  · exact Option.some.inj h ▸ ty_93
  · exact Option.some.inj h ▸ ty_95
  · exact Option.some.inj h ▸ ty_96
  · exact Option.some.inj h ▸ ty_97
  · exact Option.some.inj h ▸ ty_100
  · exact Option.some.inj h ▸ ty_104
  · exact Option.some.inj h ▸ ty_105
  · exact Option.some.inj h ▸ ty_108
  · exact Option.some.inj h ▸ ty_120
  · exact Option.some.inj h ▸ ty_121
  · exact Option.some.inj h ▸ ty_125
  · exact Option.some.inj h ▸ ty_126
  · exact Option.some.inj h ▸ ty_127
  · exact Option.some.inj h ▸ ty_128
  · exact Option.some.inj h ▸ ty_129
  · exact Option.some.inj h ▸ ty_130
  · cases h
def tabc_2 : Nat → Option TyI
  | 140 => some ⟨90, 1440, List.replicate 90 (.v (.string ⟨#[]⟩)), .arr 30 121, false⟩
  | 142 => some ⟨177, 2832, List.replicate 177 (.v (.string ⟨#[]⟩)), .arr 59 121, false⟩
  | 147 => some ⟨78, 1248, List.replicate 78 (.v (.string ⟨#[]⟩)), .arr 26 121, false⟩
  | 152 => some ⟨3, 40, [.v (.int .i64 0), .v (.string ⟨#[]⟩), .v (.string ⟨#[]⟩)], .st [(0, 3), (1, 9), (2, 9)], true⟩
  | 153 => some ⟨3, 40, [.v (.int .i64 0), .v (.string ⟨#[]⟩), .v (.string ⟨#[]⟩)], .st [(0, 3), (1, 9), (2, 9)], true⟩
  | 154 => some ⟨1, 8, [.v (.pointer none)], .ptr 25, false⟩
  | 159 => some ⟨1, 8, [.v (.map none)], .mp 3 47, false⟩
  | 161 => some ⟨256, 256, List.replicate 256 (.v (.int .u8 0)), .arr 256 5, false⟩
  | 163 => some ⟨1, 8, [.v (.nilFunc)], .fn, false⟩
  | 168 => some ⟨1, 24, [.v (.slice none 0 0)], .sl 170, false⟩
  | 169 => some ⟨2, 16, [.v (.int .i64 0), .v (.int .i64 0)], .st [(0, 3), (1, 3)], true⟩
  | 170 => some ⟨2, 16, [.v (.int .i64 0), .v (.int .i64 0)], .st [(0, 3), (1, 3)], true⟩
  | 172 => some ⟨1, 8, [.v (.pointer none)], .ptr 186, false⟩
  | 174 => some ⟨256, 256, List.replicate 256 (.v (.bool false)), .arr 256 4, false⟩
  | 175 => some ⟨256, 256, List.replicate 256 (.v (.bool false)), .arr 256 4, false⟩
  | 180 => some ⟨1, 8, [.v (.int .u64 0)], .int .u64, false⟩
  | 183 => some ⟨1, 24, [.v (.slice none 0 0)], .sl 189, false⟩
  | 184 => some ⟨1, 24, [.v (.slice none 0 0)], .sl 192, false⟩
  | 185 => some ⟨3, 56, [.v (.slice none 0 0), .v (.slice none 0 0), .v (.int .i64 0)], .st [(0, 183), (1, 184), (2, 3)], false⟩
  | 186 => some ⟨3, 56, [.v (.slice none 0 0), .v (.slice none 0 0), .v (.int .i64 0)], .st [(0, 183), (1, 184), (2, 3)], false⟩
  | 187 => some ⟨1, 2, [.v (.int .u16 0)], .int .u16, false⟩
  | 188 => some ⟨3, 6, [.v (.int .u16 0), .v (.int .u16 0), .v (.int .u16 0)], .st [(0, 187), (1, 187), (2, 187)], true⟩
  | 189 => some ⟨3, 6, [.v (.int .u16 0), .v (.int .u16 0), .v (.int .u16 0)], .st [(0, 187), (1, 187), (2, 187)], true⟩
  | 191 => some ⟨3, 12, [.v (.int .u32 0), .v (.int .u32 0), .v (.int .u32 0)], .st [(0, 69), (1, 69), (2, 69)], true⟩
  | 192 => some ⟨3, 12, [.v (.int .u32 0), .v (.int .u32 0), .v (.int .u32 0)], .st [(0, 69), (1, 69), (2, 69)], true⟩
  | 194 => some ⟨1, 8, [.v (.pointer none)], .ptr 175, false⟩
  | 197 => some ⟨1, 8, [.v (.pointer none)], .ptr 189, false⟩
  | 198 => some ⟨1, 8, [.v (.pointer none)], .ptr 192, false⟩
  | 199 => some ⟨4, 40, [.v (.pointer none), .v (.pointer none), .v (.pointer none), .v (.string ⟨#[]⟩)], .st [(0, 17), (1, 17), (2, 17), (3, 9)], false⟩
  | 200 => some ⟨4, 40, [.v (.pointer none), .v (.pointer none), .v (.pointer none), .v (.string ⟨#[]⟩)], .st [(0, 17), (1, 17), (2, 17), (3, 9)], false⟩
  | 201 => some ⟨0, 0, [], .arr 0 16, false⟩
  | 202 => some ⟨0, 0, [], .st [(0, 201)], false⟩
  | 203 => some ⟨0, 0, [], .st [(0, 201)], false⟩
  | 204 => some ⟨1, 1, [.v (.int .u8 0)], .int .u8, false⟩
  | 205 => some ⟨1, 1, [.v (.int .u8 0)], .int .u8, false⟩
  | 207 => some ⟨1, 8, [.v (.pointer none)], .ptr 5, false⟩
  | 208 => some ⟨1, 4, [.v (.int .i32 0)], .int .i32, false⟩
  | 209 => some ⟨1, 4, [.v (.int .i32 0)], .int .i32, false⟩
  | 210 => some ⟨11, 48, [.v (.int .u64 0), .v (.int .u64 0), .v (.int .u32 0), .v (.int .u8 0), .v (.int .u8 0), .v (.int .u8 0), .v (.int .u8 0), .v (.nilFunc), .v (.pointer none), .v (.int .i32 0), .v (.int .i32 0)], .st [(0, 12), (1, 12), (2, 69), (3, 204), (4, 5), (5, 5), (6, 205), (7, 206), (8, 207), (9, 208), (10, 209)], false⟩
  | 211 => some ⟨11, 48, [.v (.int .u64 0), .v (.int .u64 0), .v (.int .u32 0), .v (.int .u8 0), .v (.int .u8 0), .v (.int .u8 0), .v (.int .u8 0), .v (.nilFunc), .v (.pointer none), .v (.int .i32 0), .v (.int .i32 0)], .st [(0, 12), (1, 12), (2, 69), (3, 204), (4, 5), (5, 5), (6, 205), (7, 206), (8, 207), (9, 208), (10, 209)], false⟩
  | _ => none
theorem tabc_ok_2 : TabOk Tryz.prog tabc_2 := by
  intro t i h
  unfold tabc_2 at h
  split at h
  · exact Option.some.inj h ▸ ty_140
  · exact Option.some.inj h ▸ ty_142
  · exact Option.some.inj h ▸ ty_147
  · exact Option.some.inj h ▸ ty_152
  · exact Option.some.inj h ▸ ty_153
  · exact Option.some.inj h ▸ ty_154
  · exact Option.some.inj h ▸ ty_159
  · exact Option.some.inj h ▸ ty_161
  · exact Option.some.inj h ▸ ty_163
  · exact Option.some.inj h ▸ ty_168
  · exact Option.some.inj h ▸ ty_169
  · exact Option.some.inj h ▸ ty_170
  · exact Option.some.inj h ▸ ty_172
  · exact Option.some.inj h ▸ ty_174
  · exact Option.some.inj h ▸ ty_175
  · exact Option.some.inj h ▸ ty_180
  · exact Option.some.inj h ▸ ty_183
  · exact Option.some.inj h ▸ ty_184
  · exact Option.some.inj h ▸ ty_185
  · exact Option.some.inj h ▸ ty_186
  · exact Option.some.inj h ▸ ty_187
  · exact Option.some.inj h ▸ ty_188
  · exact Option.some.inj h ▸ ty_189
  · exact Option.some.inj h ▸ ty_191
  · exact Option.some.inj h ▸ ty_192
  · exact Option.some.inj h ▸ ty_194
  · exact Option.some.inj h ▸ ty_197
  · exact Option.some.inj h ▸ ty_198
  · exact Option.some.inj h ▸ ty_199
  · exact Option.some.inj h ▸ ty_200
  · exact Option.some.inj h ▸ ty_201
  · exact Option.some.inj h ▸ ty_202
  · exact Option.some.inj h ▸ ty_203
  · exact Option.some.inj h ▸ ty_204
  · exact Option.some.inj h ▸ ty_205
  · exact Option.some.inj h ▸ ty_207
  · exact Option.some.inj h ▸ ty_208
  · exact Option.some.inj h ▸ ty_209
  · exact Option.some.inj h ▸ ty_210
  · exact Option.some.inj h ▸ ty_211
  · cases h
def tabc_3 : Nat → Option TyI
  | 212 => some ⟨1, 8, [.v (.pointer none)], .oth, false⟩
  | _ => none
theorem tabc_ok_3 : TabOk Tryz.prog tabc_3 := by
  intro t i h
  unfold tabc_3 at h
  split at h
  · exact Option.some.inj h ▸ ty_212
  · cases h
def tab (t : Nat) : Option TyI := (tabc_0 t).or ((tabc_1 t).or ((tabc_2 t).or ((tabc_3 t).or (none))))
theorem tab_ok : TabOk Tryz.prog tab := by
  intro t i h
  unfold tab at h
  rcases Option.or_eq_some_iff.1 h with h | ⟨-, h⟩
  · exact tabc_ok_0 t i h
  rcases Option.or_eq_some_iff.1 h with h | ⟨-, h⟩
  · exact tabc_ok_1 t i h
  rcases Option.or_eq_some_iff.1 h with h | ⟨-, h⟩
  · exact tabc_ok_2 t i h
  rcases Option.or_eq_some_iff.1 h with h | ⟨-, h⟩
  · exact tabc_ok_3 t i h
  cases h
theorem tab_3 : tab 3 = some ⟨1, 8, [.v (.int .i64 0)], .int .i64, false⟩ := rfl
theorem tab_47 : tab 47 = some ⟨1, 8, [.v (.nilFunc)], .fn, false⟩ := rfl
theorem tab_79 : tab 79 = some ⟨1, 8, [.v (.nilFunc)], .fn, false⟩ := rfl
theorem tab_81 : tab 81 = some ⟨1, 8, [.v (.map none)], .mp 3 79, false⟩ := rfl
theorem tab_159 : tab 159 = some ⟨1, 8, [.v (.map none)], .mp 3 47, false⟩ := rfl
end
section
open Go.RowKit
set_option maxRecDepth 10000
theorem cells_putY {s : List UInt8} {m : Nat} {v : UInt8} (h : m < s.length) : putL (encL cY s) (m * 1) [U8 (v.toNat : Int)] = encL cY (s.set m v) := by
  have := encL_put cY s m 0 s[m] v [U8 (v.toNat : Int)] (List.getElem?_eq_getElem h) (Nat.le_refl _) rfl
  rw [cY_sz, Nat.mul_one, Nat.add_zero] at this
  rw [Nat.mul_one]; exact this

end
section
open Go.RowKit
set_option maxRecDepth 10000
end
section
open Go.RowKit
set_option maxRecDepth 10000
/- a byte of a command -/
/- a byte that is no part of a command -/
end
section
open Go.RowKit
set_option maxRecDepth 10000
theorem CallT.empty {P : Program} {f : FuncId} {Q : T → Hp → Prop} (hgo : goB P f = true) (h : ∀ A k, CallT P f [.v (.slice A 0 k)] [] Q) : CallT P f [.islc [] 0 none] [] Q :=
  ⟨hgo, fun X0 M us hS hr => by
    obtain ⟨u, q, rfl, ⟨A, k, rfl, h2⟩, hq⟩ := hr
    exact (h A k).2 X0 M _ hS ⟨_, q, rfl, rfl, hq⟩⟩
end
section
open Go.RowKit
set_option maxRecDepth 10000
def lok (c m : Int) : Bool := decide (32 ≤ c) && decide (c ≤ 126) && decide (0 ≤ m) && decide (m ≤ 1)
def lby (c m : Int) : Int := if lok c m = true then (if m = 1 ∧ 97 ≤ c ∧ c ≤ 122 then c - 32 else c) else 0
theorem letter_p (c m : Int) : CallP Tryz.prog 113 [I64 c, I64 m] (.tup [U8 (lby c m), BL (lok c m)]) := by
  have w8 : ∀ n : Int, 0 ≤ n ∧ n < 256 → IntKind.u8.wrap n = n := fun n h => wrapU h
  refine CallP.intro2 au_pu au_pu ?_
  refine CallT.intro tab_ok Tryz.func113 rfl (by kernel_rfl) (Nat.le_of_ble_eq_true rfl) ?_
  refine VC.reg tab_ok [] rfl ?_
  iterate 2 refine VX.meek rfl ?_
  refine VX.nil ?_
  refine VC.seq ?_
  refine VC.reg tab_ok [] rfl ?_
  iterate 3 refine VX.meek rfl ?_
  refine' VX.merge (d := 11) [_, _, _] rfl ?_ rfl ?_
  rotate_left
  · refine VX.guard rfl rfl (fun hb1_2 => ?_) (fun hb1_2 => ?_)
    · have ghb1_2 := hb1_2
      try simp only [au_std, Bool.not_true, Bool.not_false] at ghb1_2
      refine VX.meek rfl ?_
      refine VX.guardT rfl rfl hb1_2 ?_
      refine VX.meek rfl ?_
      refine VX.pickO rfl (fun _ => rfl) ?_
      exact VX.nil ⟨rfl, rfl⟩
    · refine VX.guardF rfl rfl hb1_2 ?_
      exact VX.pickO rfl (fun h => absurd (h.symm.trans hb1_2) (by decide)) (VX.nil ⟨rfl, rfl⟩)
  refine VX.meek rfl ?_
  refine' VX.merge (d := 15) [_, _, _] rfl ?_ rfl ?_
  rotate_left
  · refine VX.guard rfl rfl (fun hb1_6 => ?_) (fun hb1_6 => ?_)
    · have ghb1_6 := hb1_6
      try simp only [au_std, Bool.not_true, Bool.not_false] at ghb1_6
      refine VX.meek rfl ?_
      refine VX.guardT rfl rfl hb1_6 ?_
      refine VX.meek rfl ?_
      refine VX.pickO rfl (fun _ => rfl) ?_
      exact VX.nil ⟨rfl, rfl⟩
    · refine VX.guardF rfl rfl hb1_6 ?_
      exact VX.pickO rfl (fun h => absurd (h.symm.trans hb1_6) (by decide)) (VX.nil ⟨rfl, rfl⟩)
  refine VX.meek rfl ?_
  refine' VX.merge (d := 19) [_, _, _] rfl ?_ rfl ?_
  rotate_left
  · refine VX.guard rfl rfl (fun hb1_10 => ?_) (fun hb1_10 => ?_)
    · have ghb1_10 := hb1_10
      try simp only [au_std, Bool.not_true, Bool.not_false] at ghb1_10
      refine VX.meek rfl ?_
      refine VX.guardT rfl rfl hb1_10 ?_
      refine VX.meek rfl ?_
      refine VX.pickO rfl (fun _ => rfl) ?_
      exact VX.nil ⟨rfl, rfl⟩
    · refine VX.guardF rfl rfl hb1_10 ?_
      exact VX.pickO rfl (fun h => absurd (h.symm.trans hb1_10) (by decide)) (VX.nil ⟨rfl, rfl⟩)
  refine VX.nil ?_
  refine VC.cond rfl (fun hc0 => ?_) (fun hc0 => ?_)
  · (try simp only [au_std] at hc0); have e2 : lok c m = false := (by unfold lok; simp; omega); have e1 : lby c m = 0 := (by unfold lby; rw [e2]; rfl)
    refine VC.reg tab_ok [] rfl ?_
    iterate 2 refine VX.meek rfl ?_
    refine VX.nil ?_
    refine VC.ret ?_
    exact ⟨trivial, _, rfl, Cv.eq (by rw [e1, e2]; first | rfl | (show T.tup [T.v (.int .u8 (IntKind.u8.wrap _)), _] = _; rw [w8 _ (by omega)]; rfl)) rfl⟩
  · (try simp only [au_std] at hc0); have e2 : lok c m = true := (by unfold lok; simp; omega)
    refine VC.skip ?_
    refine VC.seq ?_
    refine VC.reg tab_ok [] rfl ?_
    iterate 3 refine VX.meek rfl ?_
    refine' VX.merge (d := 25) [_, _, _] rfl ?_ rfl ?_
    rotate_left
    · refine VX.guard rfl rfl (fun hb3_2 => ?_) (fun hb3_2 => ?_)
      · have ghb3_2 := hb3_2
        try simp only [au_std, Bool.not_true, Bool.not_false] at ghb3_2
        refine VX.meek rfl ?_
        refine VX.guardT rfl rfl hb3_2 ?_
        refine VX.meek rfl ?_
        refine VX.pickA rfl (fun _ => rfl) ?_
        exact VX.nil ⟨rfl, rfl⟩
      · refine VX.guardF rfl rfl hb3_2 ?_
        exact VX.pickA rfl (fun h => absurd (h.symm.trans hb3_2) (by decide)) (VX.nil ⟨rfl, rfl⟩)
    refine VX.meek rfl ?_
    refine' VX.merge (d := 29) [_, _, _] rfl ?_ rfl ?_
    rotate_left
    · refine VX.guard rfl rfl (fun hb3_6 => ?_) (fun hb3_6 => ?_)
      · have ghb3_6 := hb3_6
        try simp only [au_std, Bool.not_true, Bool.not_false] at ghb3_6
        refine VX.meek rfl ?_
        refine VX.guardT rfl rfl hb3_6 ?_
        refine VX.meek rfl ?_
        refine VX.pickA rfl (fun _ => rfl) ?_
        exact VX.nil ⟨rfl, rfl⟩
      · refine VX.guardF rfl rfl hb3_6 ?_
        exact VX.pickA rfl (fun h => absurd (h.symm.trans hb3_6) (by decide)) (VX.nil ⟨rfl, rfl⟩)
    refine VX.nil ?_
    refine VC.cond rfl (fun hc1 => ?_) (fun hc1 => ?_)
    · (try simp only [au_std] at hc1); have e1 : lby c m = c - 32 := (by unfold lby; rw [if_pos e2, if_pos (by omega)])
      refine VC.regN tab_ok [] rfl ?_
      refine VX.meek rfl ?_
      first | refine VX.sub rfl rfl (by omega) ?_ | refine VX.meek rfl ?_
      refine VX.meek rfl ?_
      refine VX.nil ?_
      refine VC.reg tab_ok [] rfl ?_
      refine VX.meek rfl ?_
      first | refine VX.meek rfl ?_ | refine VX.bytes tab_ok rfl rfl rfl rfl rfl rfl rfl rfl (by first | omega | (dsimp only; omega) | assumption) ?_
      iterate 2 refine VX.meek rfl ?_
      refine VX.nil ?_
      refine VC.ret ?_
      exact ⟨trivial, _, rfl, Cv.eq (by rw [e1, e2]; first | rfl | (show T.tup [T.v (.int .u8 (IntKind.u8.wrap _)), _] = _; rw [w8 _ (by omega)]; rfl)) rfl⟩
    · (try simp only [au_std] at hc1); have e1 : lby c m = c := (by unfold lby; rw [if_pos e2, if_neg (by omega)])
      refine VC.skip ?_
      refine VC.reg tab_ok [] rfl ?_
      refine VX.meek rfl ?_
      first | refine VX.meek rfl ?_ | refine VX.bytes tab_ok rfl rfl rfl rfl rfl rfl rfl rfl (by first | omega | (dsimp only; omega) | assumption) ?_
      iterate 2 refine VX.meek rfl ?_
      refine VX.nil ?_
      refine VC.ret ?_
      exact ⟨trivial, _, rfl, Cv.eq (by rw [e1, e2]; first | rfl | (show T.tup [T.v (.int .u8 (IntKind.u8.wrap _)), _] = _; rw [w8 _ (by omega)]; rfl)) rfl⟩
end
section
open Go.RowKit
set_option maxRecDepth 10000
set_option maxHeartbeats 1000000
structure Rq where
  code : Int
  n : List Int
  b : List UInt8
  l : List Int
deriving DecidableEq, Inhabited
abbrev cIf (l : List Int) : T := .islc (encL cI l) l.length none
def cRq : Cd Rq := ⟨4, fun r => [I64 r.code, cIf r.n, strT r.b, cIf r.l], fun _ => rfl, fun r => by simp only [T.pureL, T.pure, encL_pure]; rfl, fun _ => rfl, by decide⟩
theorem cRq_sz : cRq.sz = 4 := rfl
abbrev rqT (l : List Rq) : T := .islc (encL cRq l) l.length none
theorem au_fr {p : Prop} (h : p := by repeat' first | exact CvL.nil | refine CvL.cons ?_ ?_ | exact Cv.nil _ (.inl rfl) | refine Cv.fslc0 ⟨rfl, by simp⟩ ?_ | refine Cv.islc ?_ (.inr rfl) | exact Cv.pure au_p0) : p := h
end
section
structure Lk where
  let8 : List UInt8
  fm : Int
  tz : Int
  cu : Int
deriving DecidableEq, Inhabited
structure Ed where
  c : Ec
  made : Bool
  win : Int
  pen : Int
  fnt : Int
  w : Int
  h : Int
  top : Int
  left : Int
  cnt : Int
  asked : Int
deriving DecidableEq, Inhabited
def Ed.cols (e : Ed) : Nat := (e.w / 4).toNat
def Ed.rows (e : Ed) : Nat := (e.h / 6).toNat
def padN (l : List UInt8) (n : Nat) : List UInt8 := l.take n ++ List.replicate (n - l.length) 32
theorem padN_len (l : List UInt8) (n : Nat) : (padN l n).length = n := by unfold padN; rw [List.length_append, List.length_take, List.length_replicate]; omega
def Ed.look (e : Ed) (y : Nat) : Lk :=
  let t := e.c.bf.text
  let line := e.top + y
  if (lnN t : Int) ≤ line then ⟨padN [] e.cols, 0, 0, -1⟩
  else
    let s := lineN t line
    let b := (placeN t line 0 : Int)
    let a := max (max ((e.c.lo : Int) - b) 0 - e.left) 0
    let z := min (min ((e.c.hi : Int) - b) (s.length + 1) - e.left) e.cols
    ⟨padN (s.drop e.left.toNat) e.cols, if a < z then a else 0, if a < z then z else 0, if ((spotN t e.c.cur).1 : Int) = line then (spotN t e.c.cur).2 - e.left else -1⟩
def Ed.looks (e : Ed) : List Lk := (List.range e.rows).map e.look
def Ed.opR (e : Ed) (op : Int) : Rq := ⟨20, [e.pen, 1, op, 0, 0, 0, 0], [], []⟩
def Ed.fillR (e : Ed) (x y w h : Int) : Rq := ⟨30, [e.win, e.pen], [], [x, y, w, h]⟩
def Ed.drawnR (e : Ed) (y : Nat) (k : Lk) : List Rq :=
  [⟨36, [e.win, e.pen, 0, 6 * (y : Int) + 5, 1], k.let8, []⟩] ++ (if k.fm < k.tz then [e.opR 6, e.fillR (4 * k.fm) (6 * (y : Int)) (4 * (k.tz - k.fm)) 6, e.opR 3] else []) ++ (if 0 ≤ k.cu then [e.fillR (4 * k.cu) (6 * (y : Int) + 5) 4 1] else [])
theorem Ed.drawnR_len (e : Ed) (y : Nat) (k : Lk) : (e.drawnR y k).length ≤ 5 := by
  unfold Ed.drawnR
  rw [List.length_append, List.length_append]
  split <;> split <;> simp
def Ed.seen (e : Ed) : Ed := { e with top := sightN e.top (spotN e.c.bf.text e.c.cur).1 e.rows, left := sightN e.left (spotN e.c.bf.text e.c.cur).2 e.cols }
structure Ed.Ok (e : Ed) (top : Int) : Prop where
  side : 4 ≤ e.w ∧ e.w ≤ 128 ∧ 6 ≤ e.h ∧ e.h ≤ 128
  text : e.c.bf.text.length ≤ 4096
  cur : e.c.cur ≤ e.c.bf.text.length ∧ e.c.anc ≤ e.c.bf.text.length
  past : e.c.bf.past.length ≤ 256 ∧ e.c.bf.fut.length ≤ 256
  sight : 0 ≤ e.top ∧ e.top ≤ 4096 ∧ 0 ≤ e.left ∧ e.left ≤ 4096
  cop : e.c.cop.length ≤ 4096
  cnt : 0 ≤ e.cnt ∧ e.cnt ≤ top ∧ 0 ≤ e.asked ∧ e.asked ≤ top + 1
end
section
/- what was done and undone fits the text -/
def unT (t : List UInt8) (o : BSt) : List UInt8 := t.take o.pos ++ o.out ++ t.drop (o.pos + o.inn.length)
def reT (t : List UInt8) (o : BSt) : List UInt8 := t.take o.pos ++ o.inn ++ t.drop (o.pos + o.out.length)
def okU : List BSt → List UInt8 → Prop
  | [], t => t.length ≤ 4096
  | o :: l, t => t.length ≤ 4096 ∧ o.pos + o.inn.length ≤ t.length ∧ reT (unT t o) o = t ∧ okU l (unT t o)
def okF : List BSt → List UInt8 → Prop
  | [], t => t.length ≤ 4096
  | o :: l, t => t.length ≤ 4096 ∧ o.pos + o.out.length ≤ t.length ∧ unT (reT t o) o = t ∧ okF l (reT t o)
theorem okU_len {l : List BSt} {t : List UInt8} (h : okU l t) : t.length ≤ 4096 := by cases l with | nil => exact h | cons o l => exact h.1
theorem okF_len {l : List BSt} {t : List UInt8} (h : okF l t) : t.length ≤ 4096 := by cases l with | nil => exact h | cons o l => exact h.1
theorem okU_take : ∀ {l : List BSt} {t : List UInt8} (n : Nat), okU l t → okU (l.take n) t
  | [], t, n, h => by simpa using h
  | o :: l, t, 0, h => h.1
  | o :: l, t, n + 1, h => ⟨h.1, h.2.1, h.2.2.1, okU_take n h.2.2.2⟩
theorem okF_take : ∀ {l : List BSt} {t : List UInt8} (n : Nat), okF l t → okF (l.take n) t
  | [], t, n, h => by simpa using h
  | o :: l, t, 0, h => h.1
  | o :: l, t, n + 1, h => ⟨h.1, h.2.1, h.2.2.1, okF_take n h.2.2.2⟩
theorem wth_rev (l : List BSt) (o : BSt) : ∃ n, (wth l o).reverse = o :: l.reverse.take n := by
  unfold wth
  split
  · exact ⟨255, by rw [List.reverse_append, List.reverse_singleton, List.singleton_append, List.reverse_drop, show l.length - (l.length - 255) = 255 by omega]⟩
  · exact ⟨l.length, by rw [List.reverse_append, List.reverse_singleton, List.singleton_append, List.take_of_length_le (by simp)]⟩
theorem wth_len (l : List BSt) (o : BSt) (h : l.length ≤ 256) : (wth l o).length ≤ 256 := by
  unfold wth
  split <;> simp only [List.length_append, List.length_drop, List.length_singleton] <;> omega
theorem unT_len {t : List UInt8} {o : BSt} (h : o.pos + o.inn.length ≤ t.length) : (unT t o).length + o.inn.length = t.length + o.out.length := by
  unfold unT; simp only [List.length_append, List.length_take, List.length_drop]; omega
theorem reT_len {t : List UInt8} {o : BSt} (h : o.pos + o.out.length ≤ t.length) : (reT t o).length + o.out.length = t.length + o.inn.length := by
  unfold reT; simp only [List.length_append, List.length_take, List.length_drop]; omega
theorem unT_reT {t : List UInt8} {o : BSt} (h : o.pos + o.out.length ≤ t.length) (hs : (t.drop o.pos).take o.out.length = o.out) : unT (reT t o) o = t := by
  have h1 : (t.take o.pos).length = o.pos := by rw [List.length_take]; omega
  have e1 : (reT t o).take o.pos = t.take o.pos := by
    unfold reT
    rw [List.append_assoc, List.take_append_of_le_length (by omega), List.take_of_length_le (by omega)]
  have e2 : (reT t o).drop (o.pos + o.inn.length) = t.drop (o.pos + o.out.length) := by
    unfold reT
    rw [List.drop_append_of_le_length (by rw [List.length_append]; omega), List.drop_eq_nil_of_le (by rw [List.length_append]; omega), List.nil_append]
  unfold unT
  rw [e1, e2, ← List.drop_drop]
  conv => lhs; lhs; rhs; rw [← hs]
  rw [List.append_assoc, List.take_append_drop, List.take_append_drop]
structure Bf.Ok (b : Bf) : Prop where
  u : okU b.past.reverse b.text
  f : okF b.fut.reverse b.text
  few : b.past.length ≤ 256 ∧ b.fut.length ≤ 256
theorem Bf.Ok.chg {b : Bf} (ok : b.Ok) {o : BSt} (h : o.pos + o.out.length ≤ b.text.length) (hs : (b.text.drop o.pos).take o.out.length = o.out) (hl : b.text.length + o.inn.length ≤ 4096 + o.out.length) : (b.chg o).Ok := by
  have e := unT_reT h hs
  have hr := reT_len h
  obtain ⟨n, hn⟩ := wth_rev b.past o
  refine ⟨?_, ?_, wth_len _ _ ok.few.1, Nat.zero_le _⟩
  · show okU (wth b.past o).reverse (reT b.text o)
    rw [hn]
    refine ⟨by omega, by omega, by rw [e], ?_⟩
    rw [e]
    exact okU_take n ok.u
  · show (reT b.text o).length ≤ 4096
    omega
theorem Bf.Ok.undo {b : Bf} (ok : b.Ok) : b.undo.1.Ok := by
  unfold Bf.undo
  cases hp : b.past.getLast? with
  | none => exact ok
  | some o =>
    obtain ⟨l, hl⟩ := List.getLast?_eq_some_iff.1 hp
    have hu := ok.u
    rw [hl, List.reverse_append, List.reverse_singleton, List.singleton_append] at hu
    obtain ⟨h1, h2, h3, h4⟩ := hu
    have hr := unT_len h2
    have hf := ok.few
    obtain ⟨n, hn⟩ := wth_rev b.fut o
    refine ⟨?_, ?_, ?_, wth_len _ _ hf.2⟩
    · show okU b.past.dropLast.reverse (unT b.text o)
      rw [hl, List.dropLast_concat]
      exact h4
    · show okF (wth b.fut o).reverse (unT b.text o)
      rw [hn]
      refine ⟨okU_len h4, by omega, by rw [h3], ?_⟩
      rw [h3]
      exact okF_take n ok.f
    · show b.past.dropLast.length ≤ 256
      rw [List.length_dropLast]; omega
theorem Bf.Ok.redo {b : Bf} (ok : b.Ok) : b.redo.1.Ok := by
  unfold Bf.redo
  cases hp : b.fut.getLast? with
  | none => exact ok
  | some o =>
    obtain ⟨l, hl⟩ := List.getLast?_eq_some_iff.1 hp
    have hu := ok.f
    rw [hl, List.reverse_append, List.reverse_singleton, List.singleton_append] at hu
    obtain ⟨h1, h2, h3, h4⟩ := hu
    have hr := reT_len h2
    have hf := ok.few
    obtain ⟨n, hn⟩ := wth_rev b.past o
    refine ⟨?_, ?_, wth_len _ _ hf.1, ?_⟩
    · show okU (wth b.past o).reverse (reT b.text o)
      rw [hn]
      refine ⟨okF_len h4, by omega, by rw [h3], ?_⟩
      rw [h3]
      exact okU_take n ok.u
    · show okF b.fut.dropLast.reverse (reT b.text o)
      rw [hl, List.dropLast_concat]
      exact h4
    · show b.fut.dropLast.length ≤ 256
      rw [List.length_dropLast]; omega
structure Ec.Ok (e : Ec) : Prop where
  bf : e.bf.Ok
  cur : e.cur ≤ e.bf.text.length ∧ e.anc ≤ e.bf.text.length
  cop : e.cop.length ≤ 4096
theorem Bf.Ok.len {b : Bf} (ok : b.Ok) : b.text.length ≤ 4096 := okU_len ok.u
theorem part_at {t : List UInt8} {a b : Nat} (h : a ≤ b) (hb : b ≤ t.length) : (t.drop a).take ((t.take b).drop a).length = (t.take b).drop a := by
  rw [List.length_drop, List.length_take, List.drop_take]
  congr 1
  omega
theorem Ec.Ok.cutAt {e : Ec} (ok : e.Ok) {a b : Nat} (h : a ≤ b) (hb : b ≤ e.bf.text.length) :
    ({ e with bf := e.bf.chg ⟨a, (e.bf.text.take b).drop a, []⟩, cur := a, anc := a } : Ec).Ok := by
  have hl : ((e.bf.text.take b).drop a).length = b - a := by rw [List.length_drop, List.length_take]; omega
  have hlen := ok.bf.len
  refine ⟨ok.bf.chg (by dsimp only; omega) (part_at h hb) (by dsimp only [List.length_nil]; omega), ?_, ok.cop⟩
  have hr := reT_len (t := e.bf.text) (o := ⟨a, (e.bf.text.take b).drop a, []⟩) (by dsimp only; omega)
  have h2 : (e.bf.chg ⟨a, (e.bf.text.take b).drop a, []⟩).text.length = (reT e.bf.text ⟨a, (e.bf.text.take b).drop a, []⟩).length := rfl
  dsimp only [List.length_nil] at hr ⊢
  omega
theorem Ec.Ok.cut {e : Ec} (ok : e.Ok) : e.cut.Ok ∧ e.cut.cop = e.cop := by
  unfold Ec.cut
  split
  · exact ⟨ok, rfl⟩
  · have h := ok.cur
    exact ⟨ok.cutAt (by unfold Ec.lo Ec.hi; omega) (by unfold Ec.hi; omega), rfl⟩
theorem Ec.Ok.ins {e : Ec} (ok : e.Ok) (s : List UInt8) : (e.ins s).Ok := by
  unfold Ec.ins
  split
  · exact ok
  · have h := ok.cur
    refine ⟨ok.bf.chg (by dsimp only [List.length_nil]; omega) (by simp) (by dsimp only [List.length_nil]; omega), ?_, ok.cop⟩
    have hr := reT_len (t := e.bf.text) (o := ⟨e.cur, [], s⟩) (by dsimp only [List.length_nil]; omega)
    have h2 : (e.bf.chg ⟨e.cur, [], s⟩).text.length = (reT e.bf.text ⟨e.cur, [], s⟩).length := rfl
    dsimp only [List.length_nil] at hr ⊢
    omega
theorem Ec.Ok.put {e : Ec} (ok : e.Ok) (s : List UInt8) : (e.put s).Ok := ok.cut.1.ins s
theorem Ec.Ok.back {e : Ec} (ok : e.Ok) {p : Bf × Bool} (hp : p.1.Ok) : (e.back p).Ok := by
  unfold Ec.back
  split
  · exact ⟨hp, by dsimp only; omega, ok.cop⟩
  · exact ok
theorem Ec.Ok.erase {e : Ec} (ok : e.Ok) : e.erase.Ok := by
  unfold Ec.erase
  split
  · exact ok.cut.1
  · split
    · exact ok
    · have h := ok.cur
      exact ok.cutAt (by omega) h.1
def Ec.eraseF (e : Ec) : Ec := if e.lo ≠ e.hi then e.cut else if e.bf.text.length ≤ e.cur then e else { e with bf := e.bf.chg ⟨e.cur, (e.bf.text.take (e.cur + 1)).drop e.cur, []⟩, cur := e.cur, anc := e.cur }
theorem Ec.Ok.eraseF {e : Ec} (ok : e.Ok) : e.eraseF.Ok := by
  unfold Ec.eraseF
  split
  · exact ok.cut.1
  · split
    · exact ok
    · exact ok.cutAt (by omega) (by omega)
def Ec.goes (e : Ec) (code : Int) : Option Nat :=
  let t := e.bf.text
  let p := spotN t e.cur
  if code = 130 then some (e.cur - 1)
  else if code = 131 then some (min (e.cur + 1) t.length)
  else if code = 132 then some (placeN t p.1 0)
  else if code = 133 then some (placeN t p.1 (lineN t p.1).length)
  else if code = 134 then some (placeN t ((p.1 : Int) - 1) p.2)
  else if code = 135 then some (placeN t ((p.1 : Int) + 1) p.2)
  else none
theorem Ec.goes_le {e : Ec} (ok : e.Ok) {code : Int} {k : Nat} (h : e.goes code = some k) : k ≤ e.bf.text.length := by
  have hc := ok.cur
  unfold Ec.goes at h
  dsimp only at h
  split at h
  · injection h with h; omega
  split at h
  · injection h with h; omega
  split at h
  · injection h with h; subst h; exact placeN_le _ _ _
  split at h
  · injection h with h; subst h; exact placeN_le _ _ _
  split at h
  · injection h with h; subst h; exact placeN_le _ _ _
  split at h
  · injection h with h; subst h; exact placeN_le _ _ _
  · cases h
def letN (code mods : Int) : Option UInt8 :=
  if code < 32 ∨ 126 < code ∨ mods < 0 ∨ 1 < mods then none
  else some (UInt8.ofNat (if mods = 1 ∧ 97 ≤ code ∧ code ≤ 122 then code - 32 else code).toNat)
def Ec.cmd (e : Ec) (code : Int) : Ec :=
  if code = 122 then e.back e.bf.undo
  else if code = 121 then e.back e.bf.redo
  else if code = 97 then { e with anc := 0, cur := e.bf.text.length }
  else if code = 99 then (if e.lo < e.hi then { e with cop := (e.bf.text.take e.hi).drop e.lo } else e)
  else e
def Ec.key (e : Ec) (code mods : Int) : Ec :=
  if mods = 4 then e.cmd code
  else if 1 < mods then e
  else match letN code mods with
    | some b => e.put [b]
    | none =>
      match e.goes code with
      | some k => if mods = 0 then { e with cur := k, anc := k } else { e with cur := k }
      | none => if mods ≠ 0 then e else if code = 13 then e.put [10] else if code = 8 then e.erase else if code = 127 then e.eraseF else e
theorem Ec.Ok.cmd {e : Ec} (ok : e.Ok) (code : Int) : (e.cmd code).Ok := by
  unfold Ec.cmd
  split
  · exact ok.back ok.bf.undo
  split
  · exact ok.back ok.bf.redo
  split
  · exact ⟨ok.bf, ⟨Nat.le_refl _, Nat.zero_le _⟩, ok.cop⟩
  split
  · split
    · refine ⟨ok.bf, ok.cur, ?_⟩
      have := ok.bf.len
      show ((e.bf.text.take e.hi).drop e.lo).length ≤ 4096
      rw [List.length_drop, List.length_take]; omega
    · exact ok
  · exact ok
theorem Ec.Ok.key {e : Ec} (ok : e.Ok) (code mods : Int) : (e.key code mods).Ok := by
  unfold Ec.key
  split
  · exact ok.cmd code
  split
  · exact ok
  split
  · exact ok.put _
  split
  · rename_i k hk
    have := Ec.goes_le ok hk
    split
    · exact ⟨ok.bf, ⟨this, this⟩, ok.cop⟩
    · exact ⟨ok.bf, ⟨this, ok.cur.2⟩, ok.cop⟩
  split
  · exact ok
  split
  · exact ok.put _
  split
  · exact ok.erase
  split
  · exact ok.eraseF
  · exact ok
end
section
open Go.RowKit
set_option linter.unusedVariables false
end
section
open Go.RowKit
set_option maxRecDepth 10000
structure Fr where
  fr : Int
  w : Int
  h : Int
  title : List UInt8
deriving DecidableEq, Inhabited
structure Wt where
  g : Int
  known : Bool
  w : Int
  h : Int
deriving DecidableEq, Inhabited
structure Mg where
  base : Int
  cnt : Int
  made : Int
  w : Int
  h : Int
  fresh : Bool
  F : List (Int × Fr)
  W : List (Int × Wt)
  on : Bool
  df : Int
  dx : Int
  dy : Int
deriving DecidableEq
def posK {α : Type} (l : List (Int × α)) (id : Int) : Option Nat := l.findIdx? (fun e => e.1 == id)
def posB {α : Type} (l : List (Int × α)) (p : α → Bool) : Option Nat := l.findIdx? (fun e => p e.2)
theorem findIdx_some {α : Type} {l : List α} {p : α → Bool} {i : Nat} (h : l.findIdx? p = some i) : ∃ e, l[i]? = some e ∧ p e = true := by
  obtain ⟨h1, h2, -⟩ := List.findIdx?_eq_some_iff_getElem.1 h
  exact ⟨l[i], List.getElem?_eq_getElem h1, h2⟩
theorem posK_some {α : Type} {l : List (Int × α)} {id : Int} {i : Nat} (h : posK l id = some i) : ∃ v, l[i]? = some (id, v) := by
  obtain ⟨⟨a, v⟩, h1, h2⟩ := findIdx_some h
  have : a = id := by simpa using h2
  subst this
  exact ⟨v, h1⟩
theorem posK_none {α : Type} {l : List (Int × α)} {id : Int} (h : posK l id = none) : id ∉ l.map Prod.fst := by
  intro hm
  obtain ⟨e, h1, h2⟩ := List.mem_map.1 hm
  have := List.findIdx?_eq_none_iff.1 h e h1
  simp [h2] at this
theorem posB_some {α : Type} {l : List (Int × α)} {p : α → Bool} {i : Nat} (h : posB l p = some i) : ∃ e, l[i]? = some e ∧ p e.2 = true := findIdx_some h
def rq (c : Int) (n : List Int) : Rq := ⟨c, n, [], []⟩
def farI (step all taken : Int) : Int := if taken ≥ all then 0 else if all - taken ≤ 0 ∨ 12582912 < all - taken then step else step % (all - taken + 1)
def spotX (n w X W : Int) : Int := X + farI (12 * min (max n 0) 1048576) W w
def spotY (n h Y H : Int) : Int := Y + farI (10 * min (max n 0) 1048576) H h
def titleB (v : Int) : UInt8 := if v < 32 ∨ v > 126 then 63 else UInt8.ofNat v.toNat
def titleL (row : List Int) : List UInt8 := (row.take 32).map titleB
def Mg.mapReq (m : Mg) (id : Int) : Mg × List Rq :=
  match posK m.F id with
  | some i => ({ m with cnt := m.cnt + 2 }, [rq 3 [id], rq 3 [(m.F[i]!).2.fr]])
  | none =>
    match posK m.W id with
    | some _ => (m, [])
    | none => ({ m with cnt := m.cnt + 2, W := m.W ++ [(id, ⟨m.cnt + 1, false, 0, 0⟩)] }, [rq 9 [id], rq 15 [id, 8, 0, 0, 64, 0]])
def Mg.refused (m : Mg) (seq : Int) : Mg :=
  match posB m.W (fun k => k.g == seq || k.g + 1 == seq) with
  | some i => { m with W := m.W.eraseIdx i }
  | none => m
def Mg.sized (m : Mg) (seq w h : Int) : Mg :=
  match posB m.W (fun k => k.g == seq) with
  | some i => { m with W := m.W.set i ((m.W[i]!).1, ⟨(m.W[i]!).2.g, w != 0, w, h⟩) }
  | none => m
def Mg.draw (m : Mg) (f : Fr) : Rq := ⟨36, [f.fr, m.base + 1, 1, 7, 1], f.title, []⟩
def Mg.manage (m : Mg) (id : Int) (k : Wt) (row : List Int) : Mg × List Rq :=
  if k.known = false then (m, [])
  else if 126 < k.w ∨ 118 < k.h then ({ m with cnt := m.cnt + 1 }, [rq 3 [id]])
  else
    let f : Fr := ⟨m.base + 10 + m.made, k.w, k.h, titleL row⟩
    ({ m with cnt := m.cnt + 7, made := m.made + 1, F := m.F ++ [(id, f)] },
      [rq 1 [f.fr, 1, spotX m.made (k.w + 2) 0 m.w, spotY m.made (k.h + 10) 0 m.h, k.w + 2, k.h + 10, 200, 1, 1], rq 7 [f.fr, 32, 0, 0, 0, 0, 0, 3356], rq 54 [id, 1], rq 6 [id, f.fr, 1, 9], rq 3 [id], rq 3 [f.fr], m.draw f])
def Mg.titled (m : Mg) (seq : Int) (row : List Int) : Mg × List Rq :=
  match posB m.W (fun k => k.g + 1 == seq) with
  | some i => Mg.manage { m with W := m.W.eraseIdx i } (m.W[i]!).1 (m.W[i]!).2 row
  | none => (m, [])
def bit (mask k : Int) : Bool := mask / k % 2 == 1
def confW (f : Fr) (mask w : Int) : Int := if bit mask 4 then w else f.w
def confH (f : Fr) (mask h : Int) : Int := if bit mask 8 then h else f.h
def confBig (f : Fr) (mask w h : Int) : Bool := (bit mask 4 || bit mask 8) && (decide (1 ≤ confW f mask w) && decide (confW f mask w ≤ 126) && decide (1 ≤ confH f mask h) && decide (confH f mask h ≤ 118))
def confA (f : Fr) (id mask x y w h mode : Int) : List Rq :=
  (if confBig f mask w h then [rq 5 [id, 12, 0, 0, confW f mask w, confH f mask h, 0, 0], rq 5 [f.fr, 12, 0, 0, confW f mask w + 2, confH f mask h + 10, 0, 0]] else [])
    ++ (if bit mask 1 || bit mask 2 then [rq 5 [f.fr, mask % 4, x, y, 0, 0, 0, 0]] else []) ++ (if bit mask 16 then [rq 5 [f.fr, 16, 0, 0, 0, 0, 0, mode]] else [])
theorem confA_len (f : Fr) (id mask x y w h mode : Int) : (confA f id mask x y w h mode).length ≤ 4 := by
  unfold confA
  rw [List.length_append, List.length_append]
  have h1 : ∀ (b : Bool) (p q : Rq), (if b then [p, q] else []).length ≤ 2 := fun b p q => by cases b <;> simp
  have h2 : ∀ (b : Bool) (p : Rq), (if b then [p] else []).length ≤ 1 := fun b p => by cases b <;> simp
  have := h1 (confBig f mask w h) (rq 5 [id, 12, 0, 0, confW f mask w, confH f mask h, 0, 0]) (rq 5 [f.fr, 12, 0, 0, confW f mask w + 2, confH f mask h + 10, 0, 0])
  have := h2 (bit mask 1 || bit mask 2) (rq 5 [f.fr, mask % 4, x, y, 0, 0, 0, 0])
  have := h2 (bit mask 16) (rq 5 [f.fr, 16, 0, 0, 0, 0, 0, mode])
  omega
def Mg.conf (m : Mg) (id mask x y w h sib mode : Int) : Mg × List Rq :=
  match posK m.F id with
  | none => ({ m with cnt := m.cnt + 1 }, [rq 5 [id, mask, x, y, w, h, sib, mode]])
  | some i => ({ m with cnt := m.cnt + ((confA (m.F[i]!).2 id mask x y w h mode).length : Nat), F := if confBig (m.F[i]!).2 mask w h then m.F.set i (id, ⟨(m.F[i]!).2.fr, confW (m.F[i]!).2 mask w, confH (m.F[i]!).2 mask h, (m.F[i]!).2.title⟩) else m.F }, confA (m.F[i]!).2 id mask x y w h mode)
def Mg.own (m : Mg) (event id : Int) : Option Nat :=
  match posK m.F id with
  | some i => if (m.F[i]!).2.fr = event then some i else none
  | none => none
def Mg.unmap (m : Mg) (event id : Int) : Mg × List Rq :=
  match m.own event id with
  | some i => ({ m with cnt := m.cnt + 1 }, [rq 4 [(m.F[i]!).2.fr]])
  | none => (m, [])
def Mg.forget (m : Mg) (i : Nat) : Mg × List Rq :=
  let f := (m.F[i]!).2.fr
  let hit := m.on && (m.df == f)
  ({ m with cnt := m.cnt + 1, F := m.F.eraseIdx i, on := if hit then false else m.on, df := if hit then 0 else m.df, dx := if hit then 0 else m.dx, dy := if hit then 0 else m.dy }, [rq 2 [f]])
def Mg.destroy (m : Mg) (event id : Int) : Mg × List Rq :=
  match m.own event id with
  | some i => m.forget i
  | none => (m, [])
def Mg.reparent (m : Mg) (event id parent : Int) : Mg × List Rq :=
  match m.own event id with
  | some i => if parent = (m.F[i]!).2.fr then (m, []) else m.forget i
  | none => (m, [])
def Mg.of (m : Mg) (frame : Int) : Option Nat := posB m.F (fun f => f.fr == frame)
def Mg.expose (m : Mg) (frame count : Int) : Mg × List Rq :=
  match m.of frame with
  | some i => if count = 0 then ({ m with cnt := m.cnt + 1 }, [m.draw (m.F[i]!).2]) else (m, [])
  | none => (m, [])
def Mg.press (m : Mg) (frame x y : Int) : Mg × List Rq :=
  match m.of frame with
  | some i => ({ m with cnt := m.cnt + 1, on := true, df := (m.F[i]!).2.fr, dx := x, dy := y }, [rq 5 [(m.F[i]!).2.fr, 16, 0, 0, 0, 0, 0, 0]])
  | none => (m, [])
def boundI (v : Int) : Int := min (max v (-32768)) 32767
def Mg.move (m : Mg) (x y : Int) : Mg × List Rq :=
  if m.on = true then ({ m with cnt := m.cnt + 1 }, [rq 5 [m.df, 3, boundI (x - m.dx), boundI (y - m.dy), 0, 0, 0, 0]]) else (m, [])
def Mg.release (m : Mg) : Mg := { m with on := false, df := 0, dx := 0, dy := 0 }
def needsE (code : Int) : Nat :=
  if code = 17 then 2 else if code = 19 then 9 else if code = 16 then 2 else if code = 14 then 2 else if code = 20 then 6 else if code = 10 then 6 else if code = 3 then 9 else if code = 4 then 9 else if code = 5 then 9 else 0
def Mg.ev (m : Mg) (code : Int) (n : List Int) : Mg × List Rq :=
  if code = 17 then m.mapReq n[1]! else if code = 19 then m.conf n[1]! n[2]! n[3]! n[4]! n[5]! n[6]! n[7]! n[8]! else if code = 16 then m.unmap n[0]! n[1]! else if code = 14 then m.destroy n[0]! n[1]!
  else if code = 20 then m.reparent n[0]! n[1]! n[2]! else if code = 10 then m.expose n[0]! n[5]! else if code = 3 then m.press n[0]! n[4]! n[5]! else if code = 4 then (m.release, []) else if code = 5 then m.move n[6]! n[7]! else (m, [])
structure Ot where
  kind : Int
  code : Int
  seq : Int
  n : List Int
  b : List UInt8
  l : List Int
deriving DecidableEq
def Mg.step (m : Mg) (o : Ot) : Mg × List Rq :=
  let m := { m with fresh := false }
  if o.kind = 0 then (m.refused o.seq, [])
  else if o.kind = 1 then (if o.code = 9 ∧ 7 ≤ o.n.length then (m.sized o.seq o.n[3]! o.n[4]!, []) else if o.code = 15 ∧ 3 ≤ o.n.length then m.titled o.seq o.l else (m, []))
  else if o.kind = 2 then (if needsE o.code ≠ 0 ∧ needsE o.code ≤ o.n.length then m.ev o.code o.n else (m, []))
  else (m, [])
def r32 (n : Int) : Prop := -2147483648 ≤ n ∧ n ≤ 2147483647
structure Mg.Ok (m : Mg) (top : Int) : Prop where
  base : 1048576 ≤ m.base ∧ m.base ≤ 8388608
  cnt : 0 ≤ m.made ∧ m.made ≤ m.cnt ∧ m.cnt ≤ top
  side : 1 ≤ m.w ∧ m.w ≤ 128 ∧ 1 ≤ m.h ∧ m.h ≤ 128
  fresh : m.fresh = true → m.F = [] ∧ m.W = []
  fk : (m.F.map Prod.fst).Nodup
  wk : (m.W.map Prod.fst).Nodup
  dis : ∀ e ∈ m.F, e.1 ∉ m.W.map Prod.fst
  fr : ∀ e ∈ m.F, m.base + 10 ≤ e.2.fr ∧ e.2.fr < m.base + 10 + m.made
  frs : (m.F.map (fun e => e.2.fr)).Nodup
  fs : ∀ e ∈ m.F, r32 e.2.w ∧ r32 e.2.h ∧ e.2.title.length ≤ 32
  wg : ∀ e ∈ m.W, 1 ≤ e.2.g ∧ e.2.g + 1 ≤ m.cnt
  wgs : m.W.Pairwise (fun a b => a.2.g + 1 < b.2.g)
  wv : ∀ e ∈ m.W, e.2.known = (e.2.w != 0) ∧ r32 e.2.w ∧ r32 e.2.h
  ids : (∀ e ∈ m.F, 0 ≤ e.1 ∧ e.1 ≤ 2147483647) ∧ (∀ e ∈ m.W, 0 ≤ e.1 ∧ e.1 ≤ 2147483647)
  dr : r32 m.df ∧ r32 m.dx ∧ r32 m.dy
  lens : m.F.length ≤ m.made ∧ m.W.length ≤ m.cnt
theorem Mg.Ok.mono {m : Mg} {a b : Int} (ok : m.Ok a) (h : a ≤ b) : m.Ok b := { ok with cnt := ⟨ok.cnt.1, ok.cnt.2.1, by have := ok.cnt.2.2; omega⟩ }
theorem getM {α : Type} [Inhabited α] {l : List α} {i : Nat} {e : α} (h : l[i]? = some e) : l[i]! = e := by rw [List.getElem!_eq_getElem?_getD, h]; rfl
theorem mem_at {α : Type} {l : List α} {i : Nat} {e : α} (h : l[i]? = some e) : e ∈ l := List.mem_of_getElem? h
theorem nodup_inj {α β : Type} {l : List α} {f : α → β} (h : (l.map f).Nodup) {i j : Nat} {a b : α} (ha : l[i]? = some a) (hb : l[j]? = some b) (he : f a = f b) : i = j := by
  have h1 : (l.map f)[i]? = some (f a) := by rw [List.getElem?_map, ha]; rfl
  have h2 : (l.map f)[j]? = some (f a) := by rw [List.getElem?_map, hb, he]; rfl
  obtain ⟨k1, k2⟩ := List.getElem?_eq_some_iff.1 h1
  obtain ⟨k3, k4⟩ := List.getElem?_eq_some_iff.1 h2
  exact (List.getElem_inj h).1 (k2.trans k4.symm)
theorem pair_at {α : Type} {r : α → α → Prop} {l : List α} (h : l.Pairwise r) {i j : Nat} {a b : α} (ha : l[i]? = some a) (hb : l[j]? = some b) (hij : i < j) : r a b := by
  obtain ⟨k1, rfl⟩ := List.getElem?_eq_some_iff.1 ha
  obtain ⟨k2, rfl⟩ := List.getElem?_eq_some_iff.1 hb
  exact List.pairwise_iff_getElem.1 h i j k1 k2 hij
theorem Mg.Ok.one {m : Mg} {top : Int} (ok : m.Ok top) (s : Int) {i j : Nat} {a b : Int × Wt} (ha : m.W[i]? = some a) (hb : m.W[j]? = some b) (h1 : s = a.2.g ∨ s = a.2.g + 1) (h2 : s = b.2.g ∨ s = b.2.g + 1) : i = j := by
  rcases Nat.lt_trichotomy i j with h | h | h
  · have := pair_at ok.wgs ha hb h; omega
  · exact h
  · have := pair_at ok.wgs hb ha h; omega
end
section
open Go.RowKit
set_option maxRecDepth 10000
theorem Mg.Ok.tick {m : Mg} {top k : Int} (ok : m.Ok top) (hk : 0 ≤ k) : ({ m with cnt := m.cnt + k } : Mg).Ok (top + k) :=
  { ok with
    cnt := ⟨ok.cnt.1, by have := ok.cnt.2.1; dsimp only; omega, by have := ok.cnt.2.2; dsimp only; omega⟩
    wg := fun e he => ⟨(ok.wg e he).1, by have := (ok.wg e he).2; dsimp only; omega⟩
    lens := ⟨ok.lens.1, by have := ok.lens.2; dsimp only; omega⟩ }
theorem Mg.Ok.stale {m : Mg} {top : Int} (ok : m.Ok top) : ({ m with fresh := false } : Mg).Ok top := { ok with fresh := fun h => by cases h }
theorem Mg.Ok.dropW {m : Mg} {top : Int} (ok : m.Ok top) (hf : m.fresh = false) (i : Nat) : ({ m with W := m.W.eraseIdx i } : Mg).Ok top :=
  have hs : (m.W.eraseIdx i).Sublist m.W := List.eraseIdx_sublist _ _
  { ok with
    fresh := fun h => by simp [hf] at h
    wk := ok.wk.sublist (hs.map _)
    dis := fun e he hm => ok.dis e he ((hs.map _).subset hm)
    wg := fun e he => ok.wg e (hs.subset he)
    wgs := ok.wgs.sublist hs
    wv := fun e he => ok.wv e (hs.subset he)
    ids := ⟨ok.ids.1, fun e he => ok.ids.2 e (hs.subset he)⟩
    lens := ⟨ok.lens.1, by have := ok.lens.2; have := hs.length_le; dsimp only; omega⟩ }
theorem Mg.Ok.dropF {m : Mg} {top : Int} (ok : m.Ok top) (hf : m.fresh = false) (i : Nat) : ({ m with F := m.F.eraseIdx i } : Mg).Ok top :=
  have hs : (m.F.eraseIdx i).Sublist m.F := List.eraseIdx_sublist _ _
  { ok with
    fresh := fun h => by simp [hf] at h
    fk := ok.fk.sublist (hs.map _)
    dis := fun e he => ok.dis e (hs.subset he)
    fr := fun e he => ok.fr e (hs.subset he)
    frs := ok.frs.sublist (hs.map _)
    fs := fun e he => ok.fs e (hs.subset he)
    ids := ⟨fun e he => ok.ids.1 e (hs.subset he), ok.ids.2⟩
    lens := ⟨by have := ok.lens.1; have := hs.length_le; dsimp only; omega, ok.lens.2⟩ }
theorem nodup_snoc {α : Type} {l : List α} {a : α} (h : l.Nodup) (ha : a ∉ l) : (l ++ [a]).Nodup :=
  List.nodup_append.2 ⟨h, by simp, fun x hx y hy => by rw [List.mem_singleton] at hy; subst hy; rintro rfl; exact ha hx⟩
theorem Mg.Ok.mapReq {m : Mg} {top : Int} (ok : m.Ok top) (hf : m.fresh = false) (id : Int) (hid : 0 ≤ id ∧ id ≤ 2147483647) : (m.mapReq id).1.Ok (top + 7) := by
  unfold Mg.mapReq
  cases h1 : posK m.F id with
  | some i => exact (ok.tick (k := 2) (by omega)).mono (by omega)
  | none =>
    cases h2 : posK m.W id with
    | some i => exact ok.mono (by omega)
    | none =>
      have t := ok.tick (k := 2) (by omega)
      have hnF := posK_none h1
      have hnW := posK_none h2
      refine Mg.Ok.mono (a := top + 2) ?_ (by omega)
      exact { t with
        fresh := fun h => by simp [hf] at h
        wk := by
          show ((m.W ++ [_]).map Prod.fst).Nodup
          rw [List.map_append]
          exact nodup_snoc ok.wk hnW
        dis := fun e he hm => by
          simp only [List.map_append, List.mem_append, List.map_cons, List.map_nil, List.mem_singleton] at hm
          rcases hm with hm | hm
          · exact ok.dis e he hm
          · exact hnF (List.mem_map.2 ⟨e, he, hm⟩)
        wg := fun e he => by
          have hc := ok.cnt
          simp only [List.mem_append, List.mem_singleton] at he
          rcases he with he | rfl
          · exact t.wg e he
          · dsimp only; omega
        wgs := by
          show (m.W ++ [_]).Pairwise _
          rw [List.pairwise_append]
          refine ⟨ok.wgs, List.pairwise_singleton _ _, fun a ha b hb => ?_⟩
          rw [List.mem_singleton] at hb
          subst hb
          have := (ok.wg a ha).2
          dsimp only; omega
        wv := fun e he => by
          simp only [List.mem_append, List.mem_singleton] at he
          rcases he with he | rfl
          · exact ok.wv e he
          · exact ⟨rfl, by unfold r32; dsimp only; omega, by unfold r32; dsimp only; omega⟩
        ids := ⟨ok.ids.1, fun e he => by
          simp only [List.mem_append, List.mem_singleton] at he
          rcases he with he | rfl
          · exact ok.ids.2 e he
          · exact hid⟩
        lens := ⟨ok.lens.1, by have := ok.lens.2; simp only [List.length_append, List.length_singleton]; omega⟩ }
theorem Mg.Ok.refused {m : Mg} {top : Int} (ok : m.Ok top) (hf : m.fresh = false) (s : Int) : (m.refused s).Ok top := by
  unfold Mg.refused
  split
  · exact ok.dropW hf _
  · exact ok
theorem set_map_eq {α β : Type} {l : List α} {f : α → β} {i : Nat} {a b : α} (h : l[i]? = some a) (he : f b = f a) : (l.set i b).map f = l.map f := by
  rw [List.map_set, he]
  refine List.ext_getElem? fun j => ?_
  rw [List.getElem?_set]
  by_cases hj : i = j
  · subst hj
    rw [if_pos rfl, List.getElem?_map, h]
    have := (List.getElem?_eq_some_iff.1 h).1
    rw [if_pos (by rw [List.length_map]; exact this)]; rfl
  · rw [if_neg hj]
theorem Mg.Ok.sized {m : Mg} {top : Int} (ok : m.Ok top) (hf : m.fresh = false) (s w h : Int) (hw : r32 w) (hh : r32 h) : (m.sized s w h).Ok top := by
  unfold Mg.sized
  cases hp : posB m.W (fun k => k.g == s) with
  | none => exact ok
  | some i =>
    obtain ⟨e, he, -⟩ := posB_some hp
    simp only [getM he]
    have hm := mem_at he
    have hk : ∀ x ∈ m.W.set i (e.1, ⟨e.2.g, w != 0, w, h⟩), x ∈ m.W ∨ x = (e.1, ⟨e.2.g, w != 0, w, h⟩) := fun x hx => List.mem_or_eq_of_mem_set hx
    have hf1 : (m.W.set i (e.1, ⟨e.2.g, w != 0, w, h⟩)).map Prod.fst = m.W.map Prod.fst := set_map_eq he rfl
    have hf2 : (m.W.set i (e.1, ⟨e.2.g, w != 0, w, h⟩)).map (fun x => x.2.g) = m.W.map (fun x => x.2.g) := set_map_eq he rfl
    exact { ok with
      fresh := fun h => by simp [hf] at h
      wk := by show ((m.W.set i _).map Prod.fst).Nodup; rw [hf1]; exact ok.wk
      dis := fun x hx => by show _ ∉ (m.W.set i _).map Prod.fst; rw [hf1]; exact ok.dis x hx
      wg := fun x hx => by
        rcases hk x hx with hx | rfl
        · exact ok.wg x hx
        · exact ok.wg e hm
      wgs := by
        have := ok.wgs
        have h1 : (m.W.map (fun x => x.2.g)).Pairwise (fun a b => a + 1 < b) := List.pairwise_map.2 this
        rw [← hf2] at h1
        exact List.pairwise_map.1 h1
      wv := fun x hx => by
        rcases hk x hx with hx | rfl
        · exact ok.wv x hx
        · exact ⟨rfl, hw, hh⟩
      ids := ⟨ok.ids.1, fun x hx => by
        rcases hk x hx with hx | rfl
        · exact ok.ids.2 x hx
        · exact ok.ids.2 e hm⟩
      lens := ⟨ok.lens.1, by have := ok.lens.2; simp only [List.length_set]; exact this⟩ }
theorem Mg.Ok.manage {m : Mg} {top : Int} (ok : m.Ok top) (hf : m.fresh = false) (id : Int) (k : Wt) (row : List Int) (hid : 0 ≤ id ∧ id ≤ 2147483647) (hF : id ∉ m.F.map Prod.fst) (hW : id ∉ m.W.map Prod.fst) (hw : r32 k.w) (hh : r32 k.h) (htop : top ≤ 1000000) : (m.manage id k row).1.Ok (top + 7) := by
  unfold Mg.manage
  split
  · exact ok.mono (by omega)
  · split
    · exact (ok.tick (k := 1) (by omega)).mono (by omega)
    · have t := ok.tick (k := 7) (by omega)
      have hb := ok.base
      have hc := ok.cnt
      exact { t with
        cnt := ⟨by dsimp only; omega, by dsimp only; omega, by dsimp only; omega⟩
        fresh := fun h => by simp [hf] at h
        fk := by
          show ((m.F ++ [_]).map Prod.fst).Nodup
          rw [List.map_append]
          exact nodup_snoc ok.fk hF
        dis := fun e he => by
          simp only [List.mem_append, List.mem_singleton] at he
          rcases he with he | rfl
          · exact ok.dis e he
          · exact hW
        fr := fun e he => by
          simp only [List.mem_append, List.mem_singleton] at he
          rcases he with he | rfl
          · have := ok.fr e he; dsimp only; omega
          · dsimp only; omega
        frs := by
          show ((m.F ++ [_]).map _).Nodup
          rw [List.map_append]
          refine nodup_snoc ok.frs fun hm => ?_
          obtain ⟨e, he, h2⟩ := List.mem_map.1 hm
          have := ok.fr e he
          dsimp only at h2
          omega
        fs := fun e he => by
          simp only [List.mem_append, List.mem_singleton] at he
          rcases he with he | rfl
          · exact ok.fs e he
          · exact ⟨hw, hh, by unfold titleL; rw [List.length_map, List.length_take]; omega⟩
        ids := ⟨fun e he => by
          simp only [List.mem_append, List.mem_singleton] at he
          rcases he with he | rfl
          · exact ok.ids.1 e he
          · exact hid, ok.ids.2⟩
        lens := ⟨by have := ok.lens.1; simp only [List.length_append, List.length_singleton]; omega, t.lens.2⟩ }
theorem nodup_erase {α β : Type} {l : List α} {f : α → β} (h : (l.map f).Nodup) {i : Nat} {e : α} (he : l[i]? = some e) : f e ∉ (l.eraseIdx i).map f := by
  intro hm
  obtain ⟨x, h1, h2⟩ := List.mem_map.1 hm
  obtain ⟨j, hj⟩ := List.mem_iff_getElem?.1 h1
  rw [List.getElem?_eraseIdx] at hj
  split at hj
  · have := nodup_inj h hj he h2; omega
  · have := nodup_inj h hj he h2; omega
theorem Mg.Ok.titled {m : Mg} {top : Int} (ok : m.Ok top) (hf : m.fresh = false) (s : Int) (row : List Int) (htop : top ≤ 1000000) : (m.titled s row).1.Ok (top + 7) := by
  unfold Mg.titled
  cases hp : posB m.W (fun k => k.g + 1 == s) with
  | none => exact ok.mono (by omega)
  | some i =>
    obtain ⟨e, he, -⟩ := posB_some hp
    simp only [getM he]
    have hm := mem_at he
    have hv := ok.wv e hm
    refine (ok.dropW hf i).manage hf e.1 e.2 row (ok.ids.2 e hm) (fun k => ?_) (nodup_erase ok.wk he) hv.2.1 hv.2.2 htop
    obtain ⟨x, h1, h2⟩ := List.mem_map.1 k
    exact ok.dis x h1 (h2 ▸ List.mem_map.2 ⟨e, hm, rfl⟩)
theorem Mg.Ok.setF {m : Mg} {top : Int} (ok : m.Ok top) (hf : m.fresh = false) {i : Nat} {id : Int} {v v' : Fr} (he : m.F[i]? = some (id, v)) (h1 : v'.fr = v.fr) (h2 : r32 v'.w ∧ r32 v'.h ∧ v'.title.length ≤ 32) : ({ m with F := m.F.set i (id, v') } : Mg).Ok top := by
  have hm := mem_at he
  have hk : ∀ x ∈ m.F.set i (id, v'), x ∈ m.F ∨ x = (id, v') := fun x hx => List.mem_or_eq_of_mem_set hx
  have hf1 : (m.F.set i (id, v')).map Prod.fst = m.F.map Prod.fst := set_map_eq he rfl
  have hf2 : (m.F.set i (id, v')).map (fun x => x.2.fr) = m.F.map (fun x => x.2.fr) := set_map_eq he h1
  exact { ok with
    fresh := fun h => by simp [hf] at h
    fk := by show ((m.F.set i _).map Prod.fst).Nodup; rw [hf1]; exact ok.fk
    dis := fun x hx => by
      rcases hk x hx with hx | rfl
      · exact ok.dis x hx
      · exact ok.dis (id, v) hm
    fr := fun x hx => by
      rcases hk x hx with hx | rfl
      · exact ok.fr x hx
      · have := ok.fr _ hm; dsimp only at *; rw [h1]; exact this
    frs := by show ((m.F.set i _).map _).Nodup; rw [hf2]; exact ok.frs
    fs := fun x hx => by
      rcases hk x hx with hx | rfl
      · exact ok.fs x hx
      · exact h2
    ids := ⟨fun x hx => by
      rcases hk x hx with hx | rfl
      · exact ok.ids.1 x hx
      · exact ok.ids.1 (id, v) hm, ok.ids.2⟩
    lens := ⟨by have := ok.lens.1; simp only [List.length_set]; exact this, ok.lens.2⟩ }
theorem Mg.Ok.conf {m : Mg} {top : Int} (ok : m.Ok top) (hf : m.fresh = false) (id mask x y w h sib mode : Int) : (m.conf id mask x y w h sib mode).1.Ok (top + 7) := by
  unfold Mg.conf
  cases hp : posK m.F id with
  | none => exact (ok.tick (k := 1) (by omega)).mono (by omega)
  | some i =>
    obtain ⟨v, he⟩ := posK_some hp
    simp only [getM he]
    have hl := confA_len v id mask x y w h mode
    have t := ok.tick (k := ((confA v id mask x y w h mode).length : Nat)) (by omega)
    refine Mg.Ok.mono (a := top + ((confA v id mask x y w h mode).length : Nat)) ?_ (by omega)
    cases hb : confBig v mask w h with
    | false => exact t
    | true =>
      have hb2 := hb
      unfold confBig at hb2
      simp only [Bool.and_eq_true, decide_eq_true_eq] at hb2
      exact t.setF hf he rfl ⟨by unfold r32; dsimp only; omega, by unfold r32; dsimp only; omega, (ok.fs _ (mem_at he)).2.2⟩
theorem Mg.Ok.forget {m : Mg} {top : Int} (ok : m.Ok top) (hf : m.fresh = false) (i : Nat) : (m.forget i).1.Ok (top + 7) := by
  unfold Mg.forget
  have t := (ok.dropF hf i).tick (k := 1) (by omega)
  have hd := ok.dr
  refine Mg.Ok.mono (a := top + 1) ?_ (by omega)
  exact { t with
    dr := by
      unfold r32 at *
      dsimp only
      refine ⟨?_, ?_, ?_⟩ <;> split <;> omega }
theorem Mg.Ok.press {m : Mg} {top : Int} (ok : m.Ok top) (fr x y : Int) (hx : r32 x) (hy : r32 y) (htop : top ≤ 1000000) : (m.press fr x y).1.Ok (top + 7) := by
  unfold Mg.press
  cases hp : m.of fr with
  | none => exact ok.mono (by omega)
  | some i =>
    obtain ⟨e, he, -⟩ := posB_some hp
    simp only [getM he]
    have hfr := ok.fr e (mem_at he)
    have hb := ok.base
    have hc := ok.cnt
    have t := ok.tick (k := 1) (by omega)
    refine Mg.Ok.mono (a := top + 1) ?_ (by omega)
    exact { t with dr := ⟨by unfold r32; dsimp only; omega, hx, hy⟩ }
theorem Mg.Ok.release {m : Mg} {top : Int} (ok : m.Ok top) : m.release.Ok top :=
  { ok with dr := ⟨by unfold r32; simp [Mg.release], by unfold r32; simp [Mg.release], by unfold r32; simp [Mg.release]⟩ }
theorem Mg.Ok.move {m : Mg} {top : Int} (ok : m.Ok top) (x y : Int) : (m.move x y).1.Ok (top + 7) := by
  unfold Mg.move
  split
  · exact (ok.tick (k := 1) (by omega)).mono (by omega)
  · exact ok.mono (by omega)
theorem Mg.Ok.unmap {m : Mg} {top : Int} (ok : m.Ok top) (a b : Int) : (m.unmap a b).1.Ok (top + 7) := by
  unfold Mg.unmap
  split
  · exact (ok.tick (k := 1) (by omega)).mono (by omega)
  · exact ok.mono (by omega)
theorem Mg.Ok.destroy {m : Mg} {top : Int} (ok : m.Ok top) (hf : m.fresh = false) (a b : Int) : (m.destroy a b).1.Ok (top + 7) := by
  unfold Mg.destroy
  split
  · exact ok.forget hf _
  · exact ok.mono (by omega)
theorem Mg.Ok.reparent {m : Mg} {top : Int} (ok : m.Ok top) (hf : m.fresh = false) (a b c : Int) : (m.reparent a b c).1.Ok (top + 7) := by
  unfold Mg.reparent
  split
  · split
    · exact ok.mono (by omega)
    · exact ok.forget hf _
  · exact ok.mono (by omega)
theorem Mg.Ok.expose {m : Mg} {top : Int} (ok : m.Ok top) (a b : Int) : (m.expose a b).1.Ok (top + 7) := by
  unfold Mg.expose
  split
  · split
    · exact (ok.tick (k := 1) (by omega)).mono (by omega)
    · exact ok.mono (by omega)
  · exact ok.mono (by omega)
structure Ot.Few (o : Ot) : Prop where
  n : ∀ v ∈ o.n, r32 v
  l : ∀ v ∈ o.l, r32 v
  pos : o.kind = 2 → ∀ v ∈ o.n.take 3, 0 ≤ v
theorem Ot.Few.at {o : Ot} (h : o.Few) {i : Nat} (hi : i < o.n.length) : r32 o.n[i]! := by rw [getElem!_pos o.n i hi]; exact h.n _ (List.getElem_mem hi)
theorem Ot.Few.first {o : Ot} (h : o.Few) (hk : o.kind = 2) {i : Nat} (hi : i < o.n.length) (h3 : i < 3) : 0 ≤ o.n[i]! ∧ o.n[i]! ≤ 2147483647 := by
  refine ⟨?_, (h.at hi).2⟩
  rw [getElem!_pos o.n i hi]
  exact h.pos hk _ (List.mem_iff_getElem?.2 ⟨i, by rw [List.getElem?_take_of_lt h3]; exact List.getElem?_eq_getElem hi⟩)
theorem Mg.Ok.step {m : Mg} {top : Int} (ok : m.Ok top) (o : Ot) (ho : o.Few) (htop : top ≤ 1000000) : (m.step o).1.Ok (top + 7) := by
  have ok2 := ok.stale
  have hf : ({ m with fresh := false } : Mg).fresh = false := rfl
  unfold Mg.step
  generalize ({ m with fresh := false } : Mg) = x at *
  dsimp only
  split
  · exact (ok2.refused hf _).mono (by omega)
  split
  · split
    · rename_i h; exact (ok2.sized hf _ _ _ (ho.at (by omega)) (ho.at (by omega))).mono (by omega)
    · split
      · exact ok2.titled hf _ _ htop
      · exact ok2.mono (by omega)
  split
  · rename_i hk
    split
    · rename_i h
      have hl := h.2
      unfold needsE at hl
      unfold Mg.ev
      split
      · rename_i hc; rw [if_pos hc] at hl; exact ok2.mapReq hf _ (ho.first hk (by omega) (by omega))
      rename_i c1; rw [if_neg c1] at hl
      split
      · rename_i hc; rw [if_pos hc] at hl; exact ok2.conf hf _ _ _ _ _ _ _ _
      rename_i c2; rw [if_neg c2] at hl
      split
      · exact ok2.unmap _ _
      rename_i c3; rw [if_neg c3] at hl
      split
      · exact ok2.destroy hf _ _
      rename_i c4; rw [if_neg c4] at hl
      split
      · exact ok2.reparent hf _ _ _
      rename_i c5; rw [if_neg c5] at hl
      split
      · exact ok2.expose _ _
      rename_i c6; rw [if_neg c6] at hl
      split
      · rename_i hc; rw [if_pos hc] at hl; exact ok2.press _ _ _ (ho.at (by omega)) (ho.at (by omega)) htop
      split
      · exact ok2.release.mono (by omega)
      split
      · exact ok2.move _ _
      · exact ok2.mono (by omega)
    · exact ok2.mono (by omega)
  · exact ok2.mono (by omega)
end
section
open Go.RowKit
set_option maxRecDepth 10000
set_option maxHeartbeats 1000000
abbrev frC (f : Fr) : List T := [I64 f.fr, I64 f.w, I64 f.h, strT f.title]
abbrev frT (f : Fr) : T := .agg (frC f)
abbrev kF {α : Type} (l : List (Int × α)) : List Value := l.map fun e => Value.int .i64 e.1
abbrev tF (l : List (Int × Fr)) : List T := l.map fun e => frT e.2
end
section
open Go.RowKit
set_option maxRecDepth 10000
set_option maxHeartbeats 1000000

end
section
open Go.RowKit
set_option maxRecDepth 10000
set_option maxHeartbeats 1000000
end
section
open Go.RowKit
set_option maxRecDepth 10000
set_option maxHeartbeats 1000000
theorem kF_set {α : Type} {l : List (Int × α)} {i : Nat} {id : Int} {v v' : α} (h : l[i]? = some (id, v)) : kF (l.set i (id, v')) = kF l := set_map_eq h rfl
theorem setF {l : List (Int × Fr)} {i : Nat} {id : Int} {v v' : Fr} (h : l[i]? = some (id, v)) : mapP (kF l) ((tF l).set i (frT v')) = mapP (kF (l.set i (id, v'))) (tF (l.set i (id, v'))) := by rw [kF_set h, tF, tF, List.map_set]
end
section
open Go.RowKit
set_option maxRecDepth 10000
set_option maxHeartbeats 1000000
theorem CallP.of_glo {P : Program} {f : FuncId} {args : List T} {r : T} (hp : T.pureL args = true) (hr : r.pure = true) (hgo : goB P f = true)
    (h : ∀ (M : Mp) vs, Glo M → (∀ B, M.X B → B < M.w.heap.size) → RepL M args vs → Calls P f vs.toArray M.w (fun e w' => ∃ u, e = .returned u ∧ Below M.w.heap.size M.w w' ∧ Rep ⟨M.β, M.X, w'⟩ r u)) : CallP P f args r := by
  refine ⟨hp, hr, hgo, fun X0 M vs hS hrep => ?_⟩
  refine (h M vs hS.glo hS.bnd hrep).mono ?_
  rintro e w' ⟨u, rfl, hb, hu⟩
  have hk : ∀ B, B < M.w.heap.size → w'.heap[B]? = M.w.heap[B]? := fun B hB => hb.block B hB
  have hE : Evo X0 M ⟨M.β, M.X, w'⟩ := ⟨fun _ _ h => h, fun _ _ h => h, fun B hB _ => hk B hB, fun B s hs => by
    have : B < M.w.heap.size := by
      rcases Nat.lt_or_ge B M.w.heap.size with h1 | h1
      · exact h1
      · simp [World.shape?, Array.getElem?_eq_none h1] at hs
    rw [← hs]; exact shape_block (hk B this), hb.os, ⟨hb.tape, fun d => d.elim⟩, hb.output, hb.size⟩
  exact ⟨u, r, [], ⟨M.β, M.X, w'⟩, rfl, rfl, rfl, hE, hS.world hE hk, hu⟩
theorem repA_strs (M : Mp) : ∀ (l : List (List UInt8)) (a : Array Value) (j : Nat), (∀ i s, l[i]? = some s → a[j + i]? = some (.string ⟨s.toArray⟩)) → RepA M (encL cStr l) a j
  | [], a, j, h => trivial
  | s :: l, a, j, h => ⟨_, by simpa using h 0 s rfl, rfl, repA_strs M l a (j + 1) fun i s' h' => by
    have := h (i + 1) s' (by simpa using h')
    rwa [show j + (i + 1) = j + 1 + i from by omega] at this⟩
theorem fields_p (s : List UInt8) (hs : s.length ≤ 1000) (has : ∀ b ∈ s, b.toNat < 128) (hn : (Lib.fields s).length ≤ 1000) :
    CallP Tryz.prog 101 [strT s] (.islc (encL cStr (Lib.fields s)) (Lib.fields s).length none) := by
  refine CallP.of_glo rfl (by simp only [T.pure, encL_pure]) (by kernel_rfl) fun M vs hG hX hrep => ?_
  obtain rfl : vs = [.string ⟨s.toArray⟩] := by obtain ⟨u, q, rfl, rfl, rfl⟩ := hrep; rfl
  have htab : Lib.TabIs Tryz.prog M.w "strings.asciiSpace" .u8 Lib.asciiSpaceTab := by
    obtain ⟨-, e, f, hb⟩ := hG 0 spaceA (show glT 0 = some spaceA from if_pos rfl)
    unfold Lib.TabIs World.var?
    rw [show Tryz.prog.globalNamed "strings.asciiSpace" = some 0 from by kernel_rfl]
    simp only [Option.bind_some, hb]
    rfl
  refine (Tryz.strings_Fields_laid ⟨s.toArray⟩ M.w (by show s.toArray.size < _; rw [List.size_toArray]; omega) (fun j b h => has b (by have := List.mem_of_getElem? h; simpa using this)) htab).mono ?_
  rintro e w' ⟨rfl, rfl⟩
  have hl : (⟨s.toArray⟩ : ByteArray).data.toList = s := by simp
  rw [hl]
  refine ⟨_, rfl, ⟨rfl, rfl, rfl, by show _ ≤ (M.w.heap.push _).size; rw [Array.size_push]; omega, fun k hk => by show (M.w.heap.push _)[k]? = _; rw [Array.getElem?_push_lt hk, Array.getElem?_eq_getElem hk]⟩, ?_⟩
  refine ⟨some ⟨M.w.heap.size, 0, none⟩, (Lib.fields s).length, rfl, Nat.le_refl _, by unfold maxLen; omega, fun q h => (by cases h), .inr ⟨M.w.heap.size, 0, _, rfl, ⟨fun hx => Nat.lt_irrefl _ (hX _ hx), _, _, by show (M.w.heap.push _)[M.w.heap.size]? = _; rw [Array.getElem?_push_size]⟩, ?_⟩⟩
  refine repA_strs _ _ _ _ fun i s' h => ?_
  rw [Nat.zero_add, List.getElem?_toArray, List.getElem?_map, h]; rfl
theorem indexAny_p (s c : List UInt8) (hs : s.length ≤ 1000) (hc : c.length ≤ 1000) (has : ∀ b ∈ s, b.toNat < 128) (hac : ∀ b ∈ c, b.toNat < 128) :
    CallP Tryz.prog 118 [strT s, strT c] (I64 (Lib.indexAny s c)) := by
  refine CallP.of_glo rfl rfl (by kernel_rfl) fun M vs hG hX hrep => ?_
  obtain rfl : vs = [.string ⟨s.toArray⟩, .string ⟨c.toArray⟩] := by obtain ⟨u, q, rfl, rfl, u2, q2, rfl, rfl, rfl⟩ := hrep; rfl
  refine (Tryz.strings_IndexAny_laid ⟨s.toArray⟩ ⟨c.toArray⟩ M.w (by show s.toArray.size < _; rw [List.size_toArray]; omega) (by show c.toArray.size < _; rw [List.size_toArray]; omega) (fun j b h => has b (by have := List.mem_of_getElem? h; simpa using this)) (fun j b h => hac b (by have := List.mem_of_getElem? h; simpa using this))).mono ?_
  rintro e w' ⟨rfl, hb⟩
  refine ⟨_, rfl, hb, ?_⟩
  have hl : (⟨s.toArray⟩ : ByteArray).data.toList = s := by simp
  have hl2 : (⟨c.toArray⟩ : ByteArray).data.toList = c := by simp
  rw [hl, hl2]; rfl
end
section
open Go.RowKit
set_option maxRecDepth 10000
set_option maxHeartbeats 1000000
section
variable {q : Bool} {P : Program} {tab : Tab} {im : List Nat} {ds : List (Option Nat)} {l : List Oper} {E : Env} {H : Hp} {K : Env → Hp → Prop} {d : Nat} {ty : TypeId} {pos : String} {after : Array Edge}
theorem VX.strHd [Dr] {x hi : Operand} {t : Nat} {k : IntKind} {m : Nat} {xs : List UInt8} {i : TyI} (hT : tab t = some i) (hk : i.k = .str) (hx : E.opd x = some (strT xs)) (hh : E.opd hi = some (.v (.int k (m : Int)))) (hm : m ≤ xs.length) (kk : VX q P tab im ds l ((d, strT (xs.take m)) :: E) H K) : VX q P tab im ds (⟨some d, .slice t x none (some hi) none, ty, pos, after, none⟩ :: l) E H K := by
  refine VX.meek (t := strT (xs.take m)) ?_ kk
  have hs : (m : Int) ≤ ((⟨xs.toArray⟩ : ByteArray).size : Int) := by show (m : Int) ≤ (xs.length : Int); omega
  have he : (⟨xs.toArray⟩ : ByteArray).extract 0 m = ⟨(xs.take m).toArray⟩ := by
    have : ∀ a b : ByteArray, a.data = b.data → a = b := fun ⟨_⟩ ⟨_⟩ h => by simp only at h; subst h; rfl
    apply this
    rw [ByteArray.data_extract]
    simp
  simp only [opM, hx, optI, hh, mSlice, hT, hk, Option.isSome_none, Bool.false_eq_true, if_false, Option.getD_some, Option.getD_none]
  rw [if_pos ⟨Int.le_refl 0, Int.natCast_nonneg m, hs⟩, Int.toNat_natCast, Int.toNat_zero, he]
theorem VX.strEqN [Dr] {x y : Operand} {t t2 : Nat} {a b : List UInt8} (hx : E.opd x = some (strT a)) (hy : E.opd y = some (strT b)) (k : VX q P tab im ds l ((d, BL (a == b)) :: E) H K) : VX q P tab im ds (⟨some d, .binOp .eql t x y t2, ty, pos, after, none⟩ :: l) E H K := by
  refine VX.meek (t := BL (a == b)) ?_ k
  simp only [opM, hx, hy, mBin, binStr]
  rw [str_beq]
  rfl
end
abbrev digs : List UInt8 := [45, 48, 49, 50, 51, 52, 53, 54, 55, 56, 57]
def sizeS (f : List UInt8) : Int := IntKind.i64.wrap (IntKind.u8.wrap (((f[f.length - 1]?.getD 0).toNat : Int) - 48))
def splitS (f : List UInt8) : List UInt8 × Int :=
  if Lib.indexAny f digs < 0 then (f, 0) else (f.take (Lib.indexAny f digs).toNat, if f[(Lib.indexAny f digs).toNat]?.getD 0 = 45 then IntKind.i64.wrap (0 - sizeS f) else sizeS f)
def fieldB (f : List UInt8) : Bool := decide (f.length ≤ 1000) && f.all (fun b => decide (b.toNat < 128)) && decide (Lib.indexAny f digs < f.length)
def lineB (s : List UInt8) : Bool := decide (s.length ≤ 1000) && s.all (fun b => decide (b.toNat < 128)) && decide ((Lib.fields s).length ≤ 1000) && (Lib.fields s).all fieldB
theorem split_p (f : List UInt8) (h : fieldB f = true) : CallP Tryz.prog 102 [strT f] (.tup [strT (splitS f).1, I64 (splitS f).2]) := by
  unfold fieldB at h
  simp only [Bool.and_eq_true, decide_eq_true_eq, List.all_eq_true] at h
  obtain ⟨⟨h1, h2⟩, h3⟩ := h
  have hix := indexAny_p f digs h1 (by decide) h2 (by decide)
  unfold splitS
  generalize Lib.indexAny f digs = a at *
  by_cases ha : a < 0
  · rw [if_pos ha]
    refine CallP.intro2 au_pu au_pu ?_
    refine CallT.intro tab_ok Tryz.func102 rfl (by kernel_rfl) (Nat.le_of_ble_eq_true rfl) ?_
    refine VC.reg tab_ok [] rfl ?_
    iterate 2 refine VX.meek rfl ?_
    refine VX.nil ?_
    refine VC.reg tab_ok [] rfl ?_
    refine VX.meek rfl ?_
    refine VX.callP0 rfl rfl rfl (hix) ?_
    refine VX.meek rfl ?_
    refine VX.nil ?_
    refine VC.seq ?_
    refine VC.reg tab_ok [] rfl ?_
    iterate 2 refine VX.meek rfl ?_
    refine VX.nil ?_
    refine VC.cond rfl (fun hc0 => ?_) (fun hc0 => ?_)
    · (try simp only [au_std] at hc0)
      refine VC.reg tab_ok [] rfl ?_
      iterate 3 refine VX.meek rfl ?_
      refine VX.nil ?_
      refine VC.ret ?_
      exact ⟨trivial, _, rfl, Cv.eq (by first | rfl | (simp [*]; done)) rfl⟩
    · exact absurd hc0 (by first | omega | (simp; omega) | simp [ha])
  · rw [if_neg ha]
    obtain ⟨m, rfl⟩ := Int.eq_ofNat_of_zero_le (show 0 ≤ a by omega)
    rw [Int.toNat_natCast]
    have hm : m < f.length := by omega
    have hlast : f[f.length - 1]? = some (f[f.length - 1]?.getD 0) := by rw [List.getElem?_eq_getElem (by omega)]; rfl
    have hat : f[m]? = some (f[m]?.getD 0) := by rw [List.getElem?_eq_getElem hm]; rfl
    have hlc : ((f.length : Int) - 1) = ((f.length - 1 : Nat) : Int) := by omega
    refine CallP.intro2 au_pu au_pu ?_
    refine CallT.intro tab_ok Tryz.func102 rfl (by kernel_rfl) (Nat.le_of_ble_eq_true rfl) ?_
    refine VC.reg tab_ok [] rfl ?_
    iterate 2 refine VX.meek rfl ?_
    refine VX.nil ?_
    refine VC.reg tab_ok [] rfl ?_
    refine VX.meek rfl ?_
    refine VX.callP0 rfl rfl rfl (hix) ?_
    refine VX.meek rfl ?_
    refine VX.nil ?_
    refine VC.seq ?_
    refine VC.reg tab_ok [] rfl ?_
    iterate 2 refine VX.meek rfl ?_
    refine VX.nil ?_
    refine VC.cond rfl (fun hc0 => ?_) (fun hc0 => ?_)
    · exact absurd hc0 (by first | omega | (simp; omega) | simp)
    · (try simp only [au_std] at hc0)
      refine VC.skip ?_
      refine VC.reg tab_ok [] rfl ?_
      iterate 2 refine VX.meek rfl ?_
      refine VX.meek (t := I64 (f.length : Nat)) rfl ?_
      first | refine VX.sub rfl rfl (by omega) ?_ | refine VX.meek rfl ?_
      refine VX.idxY rfl rfl rfl rfl hlc hlast ?_
      first | refine VX.sub rfl rfl (by omega) ?_ | refine VX.meek rfl ?_
      first | refine VX.meek rfl ?_ | refine VX.bytes tab_ok rfl rfl rfl rfl rfl rfl rfl rfl (by first | omega | (dsimp only; omega) | assumption) ?_
      refine VX.meek rfl ?_
      refine VX.nil ?_
      refine VC.seq ?_
      refine VC.reg tab_ok [] rfl ?_
      iterate 2 refine VX.meek rfl ?_
      refine VX.idxY rfl rfl rfl rfl rfl hat ?_
      refine VX.meek rfl ?_
      refine VX.nil ?_
      refine VC.cond rfl (fun hc1 => ?_) (fun hc1 => ?_)
      · have hx : f[m]?.getD 0 = 45 := (UInt8.toNat_inj.1 (by have : (((f[m]?.getD 0).toNat : Nat) : Int) = 45 := (by simpa using hc1); show (f[m]?.getD 0).toNat = 45; omega))
        refine VC.regN tab_ok [] rfl ?_
        iterate 3 refine VX.meek rfl ?_
        refine VX.nil ?_
        refine VC.reg tab_ok [] rfl ?_
        iterate 2 refine VX.meek rfl ?_
        refine VX.strHd rfl rfl rfl rfl (by omega) ?_
        iterate 3 refine VX.meek rfl ?_
        refine VX.nil ?_
        refine VC.ret ?_
        exact ⟨trivial, _, rfl, Cv.eq (by rw [if_pos hx]; rfl) rfl⟩
      · have hx : ¬ f[m]?.getD 0 = 45 := (fun k => by rw [k] at hc1; simp at hc1)
        refine VC.skip ?_
        refine VC.reg tab_ok [] rfl ?_
        iterate 2 refine VX.meek rfl ?_
        refine VX.strHd rfl rfl rfl rfl (by omega) ?_
        iterate 3 refine VX.meek rfl ?_
        refine VX.nil ?_
        refine VC.ret ?_
        exact ⟨trivial, _, rfl, Cv.eq (by rw [if_neg hx]; rfl) rfl⟩
structure Fm where
  fx : List Int
  b : Bool
  l : Int
abbrev fmT (m : Fm) : T := .agg [cIf m.fx, BL m.b, I64 m.l]
def fmAdd (m : Fm) (f : List UInt8) : Fm := if (splitS f).1 = [66] then { m with b := true } else if (splitS f).1 = [76] then { m with l := (splitS f).2 } else { m with fx := m.fx ++ [(splitS f).2] }
def fmOf (fs : List (List UInt8)) : Fm := fs.foldl fmAdd ⟨[], false, 0⟩
theorem fmOf_snoc (fs : List (List UInt8)) (f : List UInt8) : fmOf (fs ++ [f]) = fmAdd (fmOf fs) f := by unfold fmOf; rw [List.foldl_append]; rfl
theorem fmOf_len (fs : List (List UInt8)) : (fmOf fs).fx.length ≤ fs.length := by
  have : ∀ (fs : List (List UInt8)) (m : Fm), (fs.foldl fmAdd m).fx.length ≤ m.fx.length + fs.length := by
    intro fs
    induction fs with
    | nil => intro m; simp
    | cons f fs ih =>
      intro m
      rw [List.foldl_cons]
      refine Nat.le_trans (ih _) ?_
      have : (fmAdd m f).fx.length ≤ m.fx.length + 1 := by
        unfold fmAdd
        split
        · simp
        · split <;> simp
      simp only [List.length_cons]; omega
  have h := this fs ⟨[], false, 0⟩
  unfold fmOf
  simpa using h
theorem form_p (s : List UInt8) (h : lineB s = true) : CallP Tryz.prog 72 [strT s] (fmT (fmOf (Lib.fields s))) := by
  unfold lineB at h
  simp only [Bool.and_eq_true, decide_eq_true_eq, List.all_eq_true] at h
  obtain ⟨⟨⟨h1, h2⟩, h3⟩, h4⟩ := h
  have hfp := fields_p s h1 h2 h3
  generalize Lib.fields s = fs at *
  have hpu := encL_pure cI (fmOf fs).fx
  refine CallP.intro2 au_pu au_pu ?_
  refine CallT.intro tab_ok Tryz.func72 rfl (by kernel_rfl) (Nat.le_of_ble_eq_true rfl) ?_
  refine VC.reg tab_ok [] rfl ?_
  refine VX.new rfl rfl ?_
  refine VX.nil ?_
  refine VC.reg tab_ok [] rfl ?_
  refine VX.new rfl rfl ?_
  refine VX.nil ?_
  refine VC.seq ?_
  refine VC.reg tab_ok [] rfl ?_
  refine VX.meek rfl ?_
  refine VX.callP0 rfl rfl rfl (hfp) ?_
  iterate 2 refine VX.meek rfl ?_
  refine VX.nil ?_
  refine VC.block ?_
  refine VC.loopS (σ := Nat) (fun k => fs.length - k) (fun k => k ≤ fs.length) (fun k => [(11, I64 k), (2, .ptr 0 0), (3, .ptr 1 0)]) (fun k => [.c [NIL, BL false, I64 0], .c [.slc 2 0 (fmOf (fs.take k)).fx.length 1 none, BL (fmOf (fs.take k)).b, I64 (fmOf (fs.take k)).l], .c (encL cI (fmOf (fs.take k)).fx)]) [9, 10] rfl (0) ?_ ?_ ?_
  · refine ⟨[some 0, some 1, none], rfl, by first | trivial | decide, by first | rfl | (simp only [noO, Bool.and_true, Bool.and_eq_true]; first | assumption | (refine ⟨?_, ?_⟩ <;> assumption)) | (simp only [noO, *, Bool.and_true, Bool.true_and, Bool.and_self]; done), ?_, ?_⟩ <;> (repeat' first | exact trivial | exact CvB_n | exact CvB_d | exact CvB_o rfl | refine CvE_app ?_ ?_ | refine CvE_cons rfl ?_ ?_ | refine CvH_cons ?_ ?_ | refine CvB_c rfl ?_ | fail) <;> first | exact au_v | (first | exact CvL.pure rfl | exact CvL.cons (Cv.nilv rfl) (CvL.pure rfl))
  · (try dsimp only); omega
  rintro k hk
  refine VC.reg tab_ok [] rfl ?_
  refine VX.meek rfl ?_
  refine VX.nil ?_
  refine VC.seq ?_
  refine VC.cond rfl (fun hc0 => ?_) (fun hc0 => ?_)
  · (try simp only [au_std] at hc0); have hkl : k < fs.length := (by omega); have hff := h4 fs[k]! (List.mem_iff_getElem?.2 ⟨k, getE hkl⟩); have hsp := split_p fs[k]! hff; have hsn : fmOf (fs.take (k + 1)) = fmAdd (fmOf (fs.take k)) fs[k]! := (by rw [List.take_add_one, List.getElem?_eq_getElem hkl, getElem!_pos fs k hkl]; exact fmOf_snoc _ _); have hlen := fmOf_len (fs.take k); have htk : (fs.take k).length = k := (by rw [List.length_take]; omega)
    generalize fmOf (fs.take k) = m at *
    unfold fmAdd at hsn
    generalize splitS fs[k]! = r at *
    refine VC.skip ?_
    refine VC.seq ?_
    refine VC.block ?_
    refine VC.reg tab_ok [] rfl ?_
    first | refine VX.idxI rfl rfl rfl rfl rfl rfl (by omega) ?_ | refine VX.idxO0 rfl rfl rfl rfl rfl rfl rfl (by omega) ?_ | refine VX.idxO0 rfl rfl rfl rfl rfl rfl au_z (by omega) ?_ | refine VX.idxO rfl rfl rfl rfl rfl rfl rfl (by omega) ?_ | refine VX.idxI rfl rfl rfl rfl rfl au_z (by omega) ?_ | refine VX.idxO rfl rfl rfl rfl rfl rfl au_z (by omega) ?_ | refine VX.meek rfl ?_
    first | refine VX.meek rfl ?_ | refine VX.loadI rfl rfl au_l ?_ | refine VX.loadP rfl rfl rfl au_l ?_
    refine VX.meek rfl ?_
    refine VX.nil ?_
    refine VC.reg tab_ok [] rfl ?_
    refine VX.meek rfl ?_
    refine VX.callP0 rfl rfl rfl (hsp) ?_
    iterate 5 refine VX.meek rfl ?_
    refine VX.nil ?_
    refine VC.reg tab_ok [] rfl ?_
    refine VX.meek rfl ?_
    refine VX.nil ?_
    refine VC.block ?_
    refine VC.reg tab_ok [] rfl ?_
    refine VX.strEqN rfl rfl ?_
    refine VX.meek rfl ?_
    refine VX.nil ?_
    refine VC.cond rfl (fun hc1 => ?_) (fun hc1 => ?_)
    · have hb : r.1 = [66] := (by simpa using hc1); rw [if_pos hb] at hsn
      refine VC.regN tab_ok [] rfl ?_
      refine VX.meek rfl ?_
      refine VX.store rfl rfl rfl rfl rfl au_s rfl ?_
      refine VX.nil ?_
      refine VC.regN tab_ok [] rfl ?_
      first | refine VX.add rfl rfl (by omega) ?_ | refine VX.meek rfl ?_
      refine VX.meek rfl ?_
      refine VX.nil ?_
      refine ⟨k + 1, by (try dsimp only); omega, ?_, (by refine ⟨[some 0, some 1, some 2], rfl, by first | trivial | decide, by first | rfl | (simp only [noO, Bool.and_true, Bool.and_eq_true]; first | assumption | (refine ⟨?_, ?_⟩ <;> assumption)) | (simp only [noO, *, Bool.and_true, Bool.true_and, Bool.and_self]; done), ?_, ?_⟩ <;> (repeat' first | exact trivial | exact CvB_n | exact CvB_d | exact CvB_o rfl | refine CvE_app ?_ ?_ | refine CvE_cons rfl ?_ ?_ | refine CvH_cons ?_ ?_ | refine CvB_c rfl ?_ | fail) <;> first | exact au_v | (first | exact CvL.pure rfl | (rw [hsn]; exact CvL.cons (Cv.slc rfl (.inl rfl)) (CvL.pure rfl)) | exact CvL.eq (by rw [hsn]) (encL_pure _ _)))⟩
      (try dsimp only); omega
    · have hb : ¬ r.1 = [66] := (by simpa using hc1); rw [if_neg hb] at hsn
      refine VC.reg tab_ok [] rfl ?_
      refine VX.strEqN rfl rfl ?_
      refine VX.meek rfl ?_
      refine VX.nil ?_
      refine VC.cond rfl (fun hc2 => ?_) (fun hc2 => ?_)
      · have hb2 : r.1 = [76] := (by simpa using hc2); rw [if_pos hb2] at hsn
        refine VC.regN tab_ok [] rfl ?_
        iterate 2 refine VX.meek rfl ?_
        refine VX.store rfl rfl rfl rfl rfl au_s rfl ?_
        refine VX.nil ?_
        refine VC.regN tab_ok [] rfl ?_
        first | refine VX.add rfl rfl (by omega) ?_ | refine VX.meek rfl ?_
        refine VX.meek rfl ?_
        refine VX.nil ?_
        refine ⟨k + 1, by (try dsimp only); omega, ?_, (by refine ⟨[some 0, some 1, some 2], rfl, by first | trivial | decide, by first | rfl | (simp only [noO, Bool.and_true, Bool.and_eq_true]; first | assumption | (refine ⟨?_, ?_⟩ <;> assumption)) | (simp only [noO, *, Bool.and_true, Bool.true_and, Bool.and_self]; done), ?_, ?_⟩ <;> (repeat' first | exact trivial | exact CvB_n | exact CvB_d | exact CvB_o rfl | refine CvE_app ?_ ?_ | refine CvE_cons rfl ?_ ?_ | refine CvH_cons ?_ ?_ | refine CvB_c rfl ?_ | fail) <;> first | exact au_v | (first | exact CvL.pure rfl | (rw [hsn]; exact CvL.cons (Cv.slc rfl (.inl rfl)) (CvL.pure rfl)) | exact CvL.eq (by rw [hsn]) (encL_pure _ _)))⟩
        (try dsimp only); omega
      · have hb2 : ¬ r.1 = [76] := (by simpa using hc2); rw [if_neg hb2] at hsn
        refine VC.regN tab_ok [24] rfl ?_
        refine VX.meek rfl ?_
        first | refine VX.meek rfl ?_ | refine VX.loadI rfl rfl au_l ?_ | refine VX.loadP rfl rfl rfl au_l ?_
        refine VX.meek rfl ?_
        refine VX.newI rfl rfl ?_
        first | refine VX.appendNil rfl rfl rfl rfl rfl rfl au_s au_s au_s ?_ | refine VX.append rfl rfl rfl rfl rfl rfl rfl rfl au_s au_s au_s au_s au_s ?_
        refine VX.meek rfl ?_
        refine VX.store rfl rfl rfl rfl rfl au_s rfl ?_
        refine VX.nil ?_
        refine VC.regN tab_ok [] rfl ?_
        first | refine VX.add rfl rfl (by omega) ?_ | refine VX.meek rfl ?_
        refine VX.meek rfl ?_
        refine VX.nil ?_
        refine ⟨k + 1, by (try dsimp only); omega, ?_, (by refine ⟨[some 0, some 1, some 3], rfl, by first | trivial | decide, by first | rfl | (simp only [noO, Bool.and_true, Bool.and_eq_true]; first | assumption | (refine ⟨?_, ?_⟩ <;> assumption)) | (simp only [noO, *, Bool.and_true, Bool.true_and, Bool.and_self]; done), ?_, ?_⟩ <;> (repeat' first | exact trivial | exact CvB_n | exact CvB_d | exact CvB_o rfl | refine CvE_app ?_ ?_ | refine CvE_cons rfl ?_ ?_ | refine CvH_cons ?_ ?_ | refine CvB_c rfl ?_ | fail) <;> first | exact au_v | (first | exact CvL.pure rfl | (rw [hsn, List.length_append]; exact CvL.cons (Cv.slc rfl (.inr rfl)) (CvL.pure rfl)) | exact CvL.eq (by rw [hsn, encL_append, List.drop_zero, List.take_of_length_le (by rw [encL_len, cI_sz]; exact Nat.le_refl _)]; rfl) (encL_pure _ _)))⟩
        (try dsimp only); omega
  · (try simp only [au_std] at hc0); obtain rfl : k = fs.length := (by omega); rw [List.take_length]
    refine VC.exit ?_
    refine VC.reg tab_ok [] rfl ?_
    first | refine VX.meek rfl ?_ | refine VX.loadI rfl rfl au_l ?_ | refine VX.loadP rfl rfl rfl au_l ?_
    refine VX.store rfl rfl rfl rfl rfl au_s rfl ?_
    refine VX.nil ?_
    refine VC.ret ?_
    exact ⟨trivial, _, rfl, Cv.agg (CvL.cons (Cv.fslc0 ⟨rfl, by simp⟩ (CvL.pure hpu)) (CvL.pure rfl))⟩
end
section
open Go.RowKit
set_option maxRecDepth 100000
set_option maxHeartbeats 1000000
section
variable {q : Bool} {P : Program} {tab : Tab} {im : List Nat} {ds : List (Option Nat)} {l : List Oper} {E : Env} {H : Hp} {K : Env → Hp → Prop} {d : Nat} {ty : TypeId} {pos : String} {after : Array Edge}
theorem ba_part (xs : List UInt8) (a b : Nat) : (⟨xs.toArray⟩ : ByteArray).extract a b = ⟨((xs.take b).drop a).toArray⟩ := by
  have : ∀ a b : ByteArray, a.data = b.data → a = b := fun ⟨_⟩ ⟨_⟩ h => by simp only at h; subst h; rfl
  apply this
  rw [ByteArray.data_extract, List.drop_take]
  simp
theorem VX.strSl [Dr] {x : Operand} {lo hi : Option Operand} {L Hh : Option Int} {t p r : Nat} {xs : List UInt8} {i : TyI} (hT : tab t = some i) (hk : i.k = .str) (hx : E.opd x = some (strT xs)) (hl : optI lo E.opd = some L) (hh : optI hi E.opd = some Hh)
    (hp : L.getD 0 = (p : Int)) (hr : Hh.getD (xs.length : Int) = (r : Int)) (h1 : p ≤ r) (h2 : r ≤ xs.length) (kk : VX q P tab im ds l ((d, strT ((xs.take r).drop p)) :: E) H K) : VX q P tab im ds (⟨some d, .slice t x lo hi none, ty, pos, after, none⟩ :: l) E H K := by
  refine VX.meek (t := strT ((xs.take r).drop p)) ?_ kk
  have hs : ((⟨xs.toArray⟩ : ByteArray).size : Int) = (xs.length : Int) := rfl
  simp only [opM, hx, hl, hh, mSlice, hT, hk, Option.isSome_none, Bool.false_eq_true, if_false, show optI none E.opd = some none from rfl]
  rw [hs, hr, hp, if_pos ⟨by omega, by omega, by omega⟩, Int.toNat_natCast, Int.toNat_natCast, ba_part]
theorem VX.strTl [Dr] {x lo : Operand} {t p : Nat} {k : IntKind} {z : Int} {xs : List UInt8} {i : TyI} (hT : tab t = some i) (hk : i.k = .str) (hx : E.opd x = some (strT xs)) (hl : E.opd lo = some (.v (.int k z)))
    (hp : z = (p : Int)) (h1 : p ≤ xs.length) (kk : VX q P tab im ds l ((d, strT (xs.drop p)) :: E) H K) : VX q P tab im ds (⟨some d, .slice t x (some lo) none none, ty, pos, after, none⟩ :: l) E H K :=
  VX.strSl (p := p) (r := xs.length) (L := some z) (Hh := none) hT hk hx (by simp only [optI, hl]) rfl hp rfl h1 (Nat.le_refl _) (by rw [List.take_length]; exact kk)
theorem VX.strHe [Dr] {x hi : Operand} {t r : Nat} {k : IntKind} {z : Int} {xs : List UInt8} {i : TyI} (hT : tab t = some i) (hk : i.k = .str) (hx : E.opd x = some (strT xs)) (hl : E.opd hi = some (.v (.int k z)))
    (hp : z = (r : Int)) (h1 : r ≤ xs.length) (kk : VX q P tab im ds l ((d, strT (xs.take r)) :: E) H K) : VX q P tab im ds (⟨some d, .slice t x none (some hi) none, ty, pos, after, none⟩ :: l) E H K :=
  VX.strSl (p := 0) (r := r) (L := none) (Hh := some z) hT hk hx rfl (by simp only [optI, hl]) rfl hp (Nat.zero_le _) h1 (by rw [List.drop_zero]; exact kk)
theorem VX.strMd [Dr] {x lo hi : Operand} {t p r : Nat} {k k2 : IntKind} {z y : Int} {xs : List UInt8} {i : TyI} (hT : tab t = some i) (hk : i.k = .str) (hx : E.opd x = some (strT xs)) (hl : E.opd lo = some (.v (.int k z))) (hh : E.opd hi = some (.v (.int k2 y)))
    (hp : z = (p : Int)) (hr : y = (r : Int)) (h1 : p ≤ r) (h2 : r ≤ xs.length) (kk : VX q P tab im ds l ((d, strT ((xs.take r).drop p)) :: E) H K) : VX q P tab im ds (⟨some d, .slice t x (some lo) (some hi) none, ty, pos, after, none⟩ :: l) E H K :=
  VX.strSl (p := p) (r := r) (L := some z) (Hh := some y) hT hk hx (by simp only [optI, hl]) (by simp only [optI, hh]) hp hr h1 h2 kk
theorem ba_cat (a b : List UInt8) : (⟨a.toArray⟩ ++ ⟨b.toArray⟩ : ByteArray) = ⟨(a ++ b).toArray⟩ := by
  apply ByteArray.ext
  rw [ByteArray.data_append]
  simp
theorem VX.strCat [Dr] {x y : Operand} {t t2 : Nat} {a b : List UInt8} (hx : E.opd x = some (strT a)) (hy : E.opd y = some (strT b)) (h : a.length + b.length < 9223372036854775808) (k : VX q P tab im ds l ((d, strT (a ++ b)) :: E) H K) : VX q P tab im ds (⟨some d, .binOp .add t x y t2, ty, pos, after, none⟩ :: l) E H K := by
  refine VX.meek (t := strT (a ++ b)) ?_ k
  simp only [opM, hx, hy, mBin, binStr]
  rw [if_pos (show (⟨a.toArray⟩ : ByteArray).size + (⟨b.toArray⟩ : ByteArray).size < 2 ^ 63 from h), ba_cat]
  rfl
end
theorem Cv.fslcE {v : Vw} {b n n' z : Nat} {c : Option Nat} {cs cs' : List T} (hn : n = n') (h : v.F b cs) (hl : CvL v cs cs') : Cv v (.slc b 0 n z c) (.islc cs' n' none) := by subst hn; exact Cv.fslc0 h hl
/- bytes of strings -/
def ixN (s : List UInt8) : Int := match nlN s with | some i => (i : Int) | none => -1
theorem ixN_eq : ∀ s : List UInt8, Lib.indexByte s 10 = ixN s
  | [] => rfl
  | b :: s => by
    have ih := ixN_eq s
    show (if (b == (10 : UInt8)) = true then 0 else if (Lib.indexByte s 10 == -1) = true then -1 else Lib.indexByte s 10 + 1) = _
    unfold ixN nlN at *
    rw [List.findIdx?_cons]
    by_cases h : (b == (10 : UInt8)) = true
    · rw [if_pos h]; simp [h]
    · rw [if_neg h, ih]
      simp only [Bool.not_eq_true] at h
      rw [h]
      cases List.findIdx? (fun b => b == (10 : UInt8)) s with
      | none => rfl
      | some i => simp only [Bool.false_eq_true, if_false, Option.map_some]; rw [if_neg (by simp)]; rfl
theorem sl_ix (s : ByteArray) (c : Int) (w : World) : Calls Tryz.prog 137 #[.string s, .int .u8 c] w fun e w' => e = .returned (.int .i64 (Lib.indexByte s.data.toList c.toNat.toUInt8)) ∧ w' = w := by
  go_enter Tryz.func137, Tryz.ntmps137
  go_wp2
  rw [run_callFunc_extern Tryz.func147 (by kernel_rfl) (by kernel_rfl) (by kernel_rfl) (e := Extern.BytealgIndexByte.indexByte) (by kernel_rfl), Lib.run_indexByteString]
  simp only [Result.andThen]
  rw [Oper.upon_value]
  go_wp2
  go_ret
  exact ⟨rfl, rfl⟩
theorem st_cnt (s : ByteArray) (c : UInt8) (w : World) : Calls Tryz.prog 75 #[.string s, .string ⟨#[c]⟩] w fun e w' => e = .returned (.int .i64 (Lib.countByte s.data.toList c)) ∧ w' = w := by
  go_enter Tryz.func75, Tryz.ntmps75
  go_wp2
  rw [run_callFunc_extern Tryz.func107 (by kernel_rfl) (by kernel_rfl) (by kernel_rfl) (e := Extern.BytealgCount.count) (by kernel_rfl), Lib.run_countString]
  simp only [Result.andThen]
  rw [Oper.upon_value]
  go_wp2
  go_ret
  exact ⟨rfl, rfl⟩
theorem ixB_p (s : List UInt8) : CallP Tryz.prog 136 [strT s, U8 10] (I64 (ixN s)) := by
  have h : CallP Tryz.prog 137 [strT s, U8 10] (I64 (ixN s)) := by
    refine CallP.of_world (us := [.string ⟨s.toArray⟩, .int .u8 10]) rfl rfl (fun M vs h => ?_) (by kernel_rfl) (fun w => ?_)
    · obtain ⟨u, r, rfl, rfl, u2, r2, rfl, rfl, rfl⟩ := h; rfl
    · refine (sl_ix ⟨s.toArray⟩ 10 w).mono ?_
      rintro e w' ⟨rfl, rfl⟩
      exact ⟨_, rfl, Below.refl _ _, fun M _ _ => congrArg (Value.int IntKind.i64) (ixN_eq s)⟩
  refine CallP.intro2 au_pu au_pu ?_
  refine CallT.intro tab_ok Tryz.func136 rfl (by kernel_rfl) (Nat.le_of_ble_eq_true rfl) ?_
  refine VC.reg tab_ok [] rfl ?_
  refine VX.meek rfl ?_
  refine VX.nil ?_
  refine VC.reg tab_ok [] rfl ?_
  iterate 2 refine VX.meek rfl ?_
  refine VX.callP0 rfl rfl rfl (h) ?_
  refine VX.meek rfl ?_
  refine VX.nil ?_
  refine VC.ret ?_
  exact ⟨trivial, _, rfl, Cv.eq rfl rfl⟩
theorem cnt_p (s : List UInt8) : CallP Tryz.prog 75 [strT s, strT [10]] (I64 (s.count 10 : Nat)) := by
  refine CallP.of_world (us := [.string ⟨s.toArray⟩, .string ⟨#[10]⟩]) rfl rfl (fun M vs h => ?_) (by kernel_rfl) (fun w => ?_)
  · obtain ⟨u, r, rfl, rfl, u2, r2, rfl, rfl, rfl⟩ := h; rfl
  · refine (st_cnt ⟨s.toArray⟩ 10 w).mono ?_
    rintro e w' ⟨rfl, rfl⟩
    exact ⟨_, rfl, Below.refl _ _, fun M _ _ => rfl⟩
def lix (s : List UInt8) : Nat → Int
  | 0 => -1
  | j + 1 => if s[j]? = some 10 then (j : Int) else lix s j
theorem lix_app (s t : List UInt8) : ∀ j, j ≤ s.length → lix (s ++ t) j = lix s j
  | 0, _ => rfl
  | j + 1, h => by unfold lix; rw [List.getElem?_append_left (by omega), lix_app s t j (by omega)]
theorem lix_rg (s : List UInt8) : ∀ j, -1 ≤ lix s j ∧ lix s j < (j : Int)
  | 0 => by unfold lix; omega
  | j + 1 => by
    have := lix_rg s j
    unfold lix
    split <;> omega
theorem colN_app (s : List UInt8) (b : UInt8) : colN (s ++ [b]) = if b = 10 then 0 else colN s + 1 := by
  unfold colN
  rw [List.reverse_append, List.reverse_singleton, List.singleton_append, List.takeWhile_cons]
  by_cases h : b = 10
  · subst h; rfl
  · rw [if_neg h, if_pos (by simpa using h), List.length_cons]
theorem lix_col (s : List UInt8) : (s.length : Int) - lix s s.length - 1 = (colN s : Int) := by
  obtain ⟨r, rfl⟩ : ∃ r : List UInt8, s = r.reverse := ⟨s.reverse, by simp⟩
  induction r with
  | nil => rfl
  | cons b r ih =>
    rw [List.reverse_cons]
    generalize r.reverse = s at ih ⊢
    rw [colN_app, List.length_append, List.length_singleton]
    unfold lix
    rw [List.getElem?_append_right (Nat.le_refl _), Nat.sub_self, lix_app s [b] _ (Nat.le_refl _)]
    by_cases h : b = 10
    · subst h; simp; omega
    · rw [if_neg h, if_neg (by simpa using h)]; omega
theorem lixB_p (s : List UInt8) (hl : s.length ≤ 100000) : CallP Tryz.prog 76 [strT s, U8 10] (I64 (lix s s.length)) := by
  have h : CallP Tryz.prog 109 [strT s, U8 10] (I64 (lix s s.length)) := by
    refine CallP.intro2 au_pu au_pu ?_
    refine CallT.intro tab_ok Tryz.func109 rfl (by kernel_rfl) (Nat.le_of_ble_eq_true rfl) ?_
    refine VC.reg tab_ok [] rfl ?_
    refine VX.meek rfl ?_
    refine VX.nil ?_
    refine VC.seq ?_
    refine VC.reg tab_ok [] rfl ?_
    refine VX.meek rfl ?_
    refine VX.meek (t := I64 (s.length : Nat)) rfl ?_
    first | refine VX.sub rfl rfl (by omega) ?_ | refine VX.meek rfl ?_
    refine VX.meek rfl ?_
    refine VX.nil ?_
    refine VC.block ?_
    refine VC.loopS (σ := Nat) (fun j => j) (fun j => j ≤ s.length ∧ lix s s.length = lix s j) (fun j => [(5, I64 ((j : Int) - 1))]) (fun j => []) [0, 1] rfl (s.length) ?_ ?_ ?_
    · refine ⟨[], rfl, by first | trivial | decide, by first | rfl | (simp only [noO, Bool.and_true, Bool.and_eq_true]; first | assumption | (refine ⟨?_, ?_⟩ <;> assumption)) | (simp only [noO, *, Bool.and_true, Bool.true_and, Bool.and_self]; done), ?_, ?_⟩ <;> (repeat' first | exact trivial | exact CvB_n | exact CvB_d | exact CvB_o rfl | refine CvE_app ?_ ?_ | refine CvE_cons rfl ?_ ?_ | refine CvH_cons ?_ ?_ | refine CvB_c rfl ?_ | fail) <;> first | exact au_v | (exact CvL.pure rfl)
    · (try dsimp only); omega
    rintro j hj
    refine VC.seq ?_
    refine VC.reg tab_ok [] rfl ?_
    iterate 2 refine VX.meek rfl ?_
    refine VX.nil ?_
    refine VC.cond rfl (fun hc0 => ?_) (fun hc0 => ?_)
    · (try simp only [au_std] at hc0); obtain ⟨hj1, hj2⟩ := hj; have hat : s[j - 1]? = some (s[j - 1]?.getD 0) := (by rw [List.getElem?_eq_getElem (by omega)]; rfl)
      refine VC.skip ?_
      refine VC.seq ?_
      refine VC.block ?_
      refine VC.reg tab_ok [] rfl ?_
      iterate 2 refine VX.meek rfl ?_
      refine VX.idxY rfl rfl rfl rfl (show ((j : Int) - 1) = ((j - 1 : Nat) : Int) by omega) hat ?_
      iterate 2 refine VX.meek rfl ?_
      refine VX.nil ?_
      refine VC.cond rfl (fun hc1 => ?_) (fun hc1 => ?_)
      · (try simp only [au_std] at hc1); have e1 : lix s j = (j : Int) - 1 := (by obtain ⟨k, rfl⟩ : ∃ k, j = k + 1 := ⟨j - 1, by omega⟩; unfold lix; rw [if_pos (by rw [Nat.add_sub_cancel] at hat hc1; rw [hat]; congr 1; apply UInt8.toNat.inj; show _ = 10; omega)]; omega)
        refine VC.reg tab_ok [] rfl ?_
        iterate 2 refine VX.meek rfl ?_
        refine VX.nil ?_
        refine VC.ret ?_
        exact ⟨trivial, _, rfl, Cv.eq (by rw [hj2, e1]) rfl⟩
      · (try simp only [au_std] at hc1); have e1 : lix s j = lix s (j - 1) := (by obtain ⟨k, rfl⟩ : ∃ k, j = k + 1 := ⟨j - 1, by omega⟩; rw [Nat.add_sub_cancel] at *; conv => lhs; unfold lix; rw [if_neg (by rw [hat]; intro hh; injection hh with hh; rw [hh] at hc1; exact hc1 rfl)])
        refine VC.skip ?_
        refine VC.regN tab_ok [] rfl ?_
        refine VX.meek rfl ?_
        first | refine VX.sub rfl rfl (by omega) ?_ | refine VX.meek rfl ?_
        refine VX.meek rfl ?_
        refine VX.nil ?_
        refine ⟨j - 1, by (try dsimp only); omega, ?_, (by refine ⟨[], rfl, by first | trivial | decide, by first | rfl | (simp only [noO, Bool.and_true, Bool.and_eq_true]; first | assumption | (refine ⟨?_, ?_⟩ <;> assumption)) | (simp only [noO, *, Bool.and_true, Bool.true_and, Bool.and_self]; done), ?_, ?_⟩ <;> (repeat' first | exact trivial | exact CvB_n | exact CvB_d | exact CvB_o rfl | refine CvE_app ?_ ?_ | refine CvE_cons rfl ?_ ?_ | refine CvH_cons ?_ ?_ | refine CvB_c rfl ?_ | fail) <;> first | exact au_v | (first | exact CvL.pure rfl | exact Cv.pure rfl | exact Cv.eq (by congr 2; omega) rfl | omega))⟩
        exact ⟨by omega, by rw [hj2, e1]⟩
    · (try simp only [au_std] at hc0); obtain ⟨hj1, hj2⟩ := hj; obtain rfl : j = 0 := (by omega)
      refine VC.exit ?_
      refine VC.reg tab_ok [] rfl ?_
      refine VX.meek rfl ?_
      refine VX.nil ?_
      refine VC.ret ?_
      exact ⟨trivial, _, rfl, Cv.eq (by rw [hj2]; rfl) rfl⟩
  refine CallP.intro2 au_pu au_pu ?_
  refine CallT.intro tab_ok Tryz.func76 rfl (by kernel_rfl) (Nat.le_of_ble_eq_true rfl) ?_
  refine VC.reg tab_ok [] rfl ?_
  refine VX.meek rfl ?_
  refine VX.nil ?_
  refine VC.reg tab_ok [] rfl ?_
  iterate 2 refine VX.meek rfl ?_
  refine VX.callP0 rfl rfl rfl (h) ?_
  refine VX.meek rfl ?_
  refine VX.nil ?_
  refine VC.ret ?_
  exact ⟨trivial, _, rfl, Cv.eq rfl rfl⟩
end
section
open Go.RowKit
set_option maxRecDepth 100000
set_option maxHeartbeats 1000000
section
variable {q : Bool} {P : Program} {tab : Tab} {im : List Nat} {ds : List (Option Nat)} {l : List Oper} {E : Env} {H : Hp} {K : Env → Hp → Prop} {d : Nat} {ty : TypeId} {pos : String} {after : Array Edge}
theorem VX.slcIt [Dr] {t e n p : Nat} {x lo : Operand} {k : IntKind} {z : Int} {i j : TyI} {cs : List T} {c : Option Nat} (hT : tab t = some i) (hk : i.k = .sl e) (hj : tab e = some j) (hx : E.opd x = some (.islc cs n c)) (hl : E.opd lo = some (.v (.int k z)))
    (hp : z = (p : Int)) (h1 : p < n) (kk : VX q P tab im ds l ((d, .islc (cs.drop (p * j.sz)) (n - p) (c.map fun q => q - p)) :: E) H K) : VX q P tab im ds (⟨some d, .slice t x (some lo) none none, ty, pos, after, none⟩ :: l) E H K :=
  VX.slcI (p := p) (r := n) (L := some z) (Hh := none) hT hk hj hx (by simp only [optI, hl]) rfl rfl hp rfl (by omega) (Nat.le_refl _) (.inr h1) kk
end
def cSt : Cd BSt := ⟨3, fun o => [I64 o.pos, strT o.out, strT o.inn], fun _ => rfl, fun _ => rfl, fun _ => rfl, by decide⟩
theorem cSt_sz : cSt.sz = 3 := rfl
abbrev stT (l : List BSt) : T := .islc (encL cSt l) l.length none
abbrev stpT (o : BSt) : T := .agg [I64 o.pos, strT o.out, strT o.inn]
abbrev bufC (b : Bf) : List T := [stT b.past, stT b.fut, strT b.text]
abbrev bufT (b : Bf) : T := .agg (bufC b)
theorem buf_pure (b : Bf) : T.pureL (bufC b) = true := by simp only [T.pureL, T.pure, encL_pure]; rfl
theorem with_p (l : List BSt) (o : BSt) (h : l.length ≤ 256) : CallP Tryz.prog 121 [.agg [stT l], stpT o] (.agg [stT (wth l o)]) := by
  have hp := encL_pure cSt l
  by_cases hf : 256 ≤ l.length
  case pos =>
    have e : wth l o = l.drop 1 ++ [o] := by unfold wth; rw [if_pos hf, show l.length - 255 = 1 by omega]
    have hd : (encL cSt l).drop 3 = encL cSt (l.drop 1) := encL_drop cSt l 1
    have hdl : (l.drop 1).length = l.length - 1 := List.length_drop ..
    have hp2 := encL_pure cSt (l.drop 1)
    refine CallP.intro2 au_pu au_pu ?_
    refine CallT.intro tab_ok Tryz.func121 rfl (by kernel_rfl) (Nat.le_of_ble_eq_true rfl) ?_
    refine VC.reg tab_ok [2, 3] rfl ?_
    iterate 2 refine VX.newI rfl rfl ?_
    refine VX.new rfl rfl ?_
    refine VX.nil ?_
    refine VC.reg tab_ok [] rfl ?_
    refine VX.meek rfl ?_
    first | refine VX.meek rfl ?_ | refine VX.loadI rfl rfl au_l ?_ | refine VX.loadP rfl rfl rfl au_l ?_
    refine VX.meek rfl ?_
    refine VX.nil ?_
    refine VC.seq ?_
    refine VC.reg tab_ok [] rfl ?_
    iterate 3 refine VX.meek rfl ?_
    refine VX.nil ?_
    refine VC.cond rfl (fun hc0 => ?_) (fun hc0 => ?_)
    · (try simp only [au_std] at hc0)
      refine VC.regN tab_ok [] rfl ?_
      iterate 3 refine VX.meek rfl ?_
      first | refine VX.sub rfl rfl (by omega) ?_ | refine VX.meek rfl ?_
      first | refine VX.add rfl rfl (by omega) ?_ | refine VX.meek rfl ?_
      refine VX.slcIt (p := 1) rfl rfl rfl rfl rfl (by show (l.length : Int) - 256 + 1 = _; omega) (show 1 < l.length by omega) ?_; rw [show ∀ j : Nat, 1 * j = j from Nat.one_mul, hd, ← hdl]
      refine VX.meek rfl ?_
      refine VX.nil ?_
      refine VC.reg tab_ok [] rfl ?_
      iterate 2 refine VX.meek rfl ?_
      first | refine VX.add rfl rfl (by omega) ?_ | refine VX.meek rfl ?_
      refine VX.mkS (a := 0) (b := (l.drop 1).length + 1) rfl rfl rfl rfl rfl rfl rfl (by omega) (by omega) (by omega) (by dsimp only; omega) ?_
      refine VX.meek rfl ?_
      refine VX.nil ?_
      refine VC.reg tab_ok [] rfl ?_
      iterate 2 refine VX.meek rfl ?_
      refine' VX.append rfl rfl rfl rfl rfl rfl (src_c cSt rfl rfl rfl rfl) rfl ?h1 ?h2 ?h3 ?h4 ?h5 ?_
      case h1 => exact Nat.zero_le _
      case h2 => exact Nat.le_trans (Nat.mul_le_mul_right _ (show _ ≤ 1000 by omega)) (by decide)
      case h3 => omega
      case h4 => rw [encL_len]; rfl
      case h5 => exact encL_cb _ _
      refine VX.meek rfl ?_
      refine VX.nil ?_
      refine VC.reg tab_ok [27] rfl ?_
      refine VX.meek rfl ?_
      first | refine VX.meek rfl ?_ | refine VX.loadI rfl rfl au_l ?_ | refine VX.loadP rfl rfl rfl au_l ?_
      refine VX.newI rfl rfl ?_
      refine' VX.append rfl rfl rfl rfl rfl rfl rfl rfl ?h1 ?h2 ?h3 ?h4 ?h5 ?_
      case h1 => show 0 + (0 + (l.drop 1).length) * 3 ≤ _; rw [List.length_append, encL_len, cSt_sz]; omega
      case h2 => exact Nat.le_trans (Nat.mul_le_mul_right _ (show _ ≤ 1000 by omega)) (by decide)
      case h3 => omega
      case h4 => rfl
      case h5 => rfl
      refine VX.meek rfl ?_
      refine VX.store rfl rfl rfl rfl rfl au_s rfl ?_
      refine VX.nil ?_
      refine VC.ret ?_
      exact ⟨trivial, _, rfl, Cv.agg (CvL.cons (by rw [e]; refine Cv.fslcE (by simp) ⟨rfl, by simp⟩ (CvL.eq ?_ (encL_pure _ _)); rw [encL_append, Nat.zero_mul, List.take_zero, List.nil_append, List.drop_zero, List.take_of_length_le (by show _ ≤ (0 + (l.drop 1).length) * 3; rw [encL_len, cSt_sz]; omega)]; rfl) CvL.nil)⟩
    · exact absurd hc0 (by simp; omega)
  case neg =>
    have e : wth l o = l ++ [o] := wth_few (by omega)
    refine CallP.intro2 au_pu au_pu ?_
    refine CallT.intro tab_ok Tryz.func121 rfl (by kernel_rfl) (Nat.le_of_ble_eq_true rfl) ?_
    refine VC.reg tab_ok [2, 3] rfl ?_
    iterate 2 refine VX.newI rfl rfl ?_
    refine VX.new rfl rfl ?_
    refine VX.nil ?_
    refine VC.reg tab_ok [] rfl ?_
    refine VX.meek rfl ?_
    first | refine VX.meek rfl ?_ | refine VX.loadI rfl rfl au_l ?_ | refine VX.loadP rfl rfl rfl au_l ?_
    refine VX.meek rfl ?_
    refine VX.nil ?_
    refine VC.seq ?_
    refine VC.reg tab_ok [] rfl ?_
    iterate 3 refine VX.meek rfl ?_
    refine VX.nil ?_
    refine VC.cond rfl (fun hc0 => ?_) (fun hc0 => ?_)
    · exact absurd hc0 (by simp; omega)
    · (try simp only [au_std] at hc0)
      refine VC.skip ?_
      refine VC.reg tab_ok [] rfl ?_
      iterate 2 refine VX.meek rfl ?_
      first | refine VX.add rfl rfl (by omega) ?_ | refine VX.meek rfl ?_
      refine VX.mkS (a := 0) (b := l.length + 1) rfl rfl rfl rfl rfl rfl rfl (by omega) (by omega) (by omega) (by dsimp only; omega) ?_
      refine VX.meek rfl ?_
      refine VX.nil ?_
      refine VC.reg tab_ok [] rfl ?_
      iterate 2 refine VX.meek rfl ?_
      refine' VX.append rfl rfl rfl rfl rfl rfl (src_c cSt rfl rfl rfl rfl) rfl ?h1 ?h2 ?h3 ?h4 ?h5 ?_
      case h1 => exact Nat.zero_le _
      case h2 => exact Nat.le_trans (Nat.mul_le_mul_right _ (show _ ≤ 1000 by omega)) (by decide)
      case h3 => omega
      case h4 => rw [encL_len]; rfl
      case h5 => exact encL_cb _ _
      refine VX.meek rfl ?_
      refine VX.nil ?_
      refine VC.reg tab_ok [27] rfl ?_
      refine VX.meek rfl ?_
      first | refine VX.meek rfl ?_ | refine VX.loadI rfl rfl au_l ?_ | refine VX.loadP rfl rfl rfl au_l ?_
      refine VX.newI rfl rfl ?_
      refine' VX.append rfl rfl rfl rfl rfl rfl rfl rfl ?h1 ?h2 ?h3 ?h4 ?h5 ?_
      case h1 => show 0 + (0 + l.length) * 3 ≤ _; rw [List.length_append, encL_len, cSt_sz]; omega
      case h2 => exact Nat.le_trans (Nat.mul_le_mul_right _ (show _ ≤ 1000 by omega)) (by decide)
      case h3 => omega
      case h4 => rfl
      case h5 => rfl
      refine VX.meek rfl ?_
      refine VX.store rfl rfl rfl rfl rfl au_s rfl ?_
      refine VX.nil ?_
      refine VC.ret ?_
      exact ⟨trivial, _, rfl, Cv.agg (CvL.cons (by rw [e]; refine Cv.fslcE (by simp) ⟨rfl, by simp⟩ (CvL.eq ?_ (encL_pure _ _)); rw [encL_append, Nat.zero_mul, List.take_zero, List.nil_append, List.drop_zero, List.take_of_length_le (by show _ ≤ (0 + l.length) * 3; rw [encL_len, cSt_sz]; omega)]; rfl) CvL.nil)⟩
theorem count_p (l : List BSt) : CallP Tryz.prog 141 [.agg [stT l]] (I64 (l.length : Nat)) := by
  have hp := encL_pure cSt l
  refine CallP.intro2 au_pu au_pu ?_
  refine CallT.intro tab_ok Tryz.func141 rfl (by kernel_rfl) (Nat.le_of_ble_eq_true rfl) ?_
  refine VC.reg tab_ok [1] rfl ?_
  refine VX.newI rfl rfl ?_
  refine VX.meek rfl ?_
  refine VX.nil ?_
  refine VC.reg tab_ok [] rfl ?_
  refine VX.meek rfl ?_
  first | refine VX.meek rfl ?_ | refine VX.loadI rfl rfl au_l ?_ | refine VX.loadP rfl rfl rfl au_l ?_
  iterate 2 refine VX.meek rfl ?_
  refine VX.nil ?_
  refine VC.ret ?_
  exact ⟨trivial, _, rfl, Cv.eq rfl rfl⟩
theorem last_p (l : List BSt) (o : BSt) (h : l.length ≤ 256) : CallP Tryz.prog 142 [.agg [stT (l ++ [o])]] (stpT o) := by
  have hp := encL_pure cSt (l ++ [o])
  have hl : (l ++ [o]).length = l.length + 1 := by simp
  refine CallP.intro2 au_pu au_pu ?_
  refine CallT.intro tab_ok Tryz.func142 rfl (by kernel_rfl) (Nat.le_of_ble_eq_true rfl) ?_
  refine VC.reg tab_ok [1] rfl ?_
  refine VX.newI rfl rfl ?_
  refine VX.new rfl rfl ?_
  refine VX.nil ?_
  refine VC.reg tab_ok [] rfl ?_
  refine VX.meek rfl ?_
  first | refine VX.meek rfl ?_ | refine VX.loadI rfl rfl au_l ?_ | refine VX.loadP rfl rfl rfl au_l ?_
  refine VX.meek rfl ?_
  first | refine VX.meek rfl ?_ | refine VX.loadI rfl rfl au_l ?_ | refine VX.loadP rfl rfl rfl au_l ?_
  refine VX.meek rfl ?_
  first | refine VX.sub rfl rfl (by omega) ?_ | refine VX.meek rfl ?_
  refine VX.idxI (m := l.length) rfl rfl rfl rfl rfl (show (((l ++ [o]).length : Nat) : Int) - 1 = _ by rw [hl]; omega) (by rw [hl]; omega) ?_
  refine VX.loadI rfl rfl (encL_part0 cSt (m := l.length) (a := o) (by simp) (by decide) rfl) ?_
  refine VX.store rfl rfl rfl rfl rfl au_s rfl ?_
  refine VX.nil ?_
  refine VC.ret ?_
  exact ⟨trivial, _, rfl, Cv.eq rfl rfl⟩
theorem less_p (l : List BSt) (o : BSt) (h : l.length ≤ 256) : CallP Tryz.prog 143 [.agg [stT (l ++ [o])]] (.agg [stT l]) := by
  have hp := encL_pure cSt (l ++ [o])
  have hp2 := encL_pure cSt l
  have hl : (l ++ [o]).length = l.length + 1 := by simp
  refine CallP.intro2 au_pu au_pu ?_
  refine CallT.intro tab_ok Tryz.func143 rfl (by kernel_rfl) (Nat.le_of_ble_eq_true rfl) ?_
  refine VC.reg tab_ok [1] rfl ?_
  refine VX.newI rfl rfl ?_
  refine VX.new rfl rfl ?_
  refine VX.nil ?_
  refine VC.reg tab_ok [] rfl ?_
  refine VX.meek rfl ?_
  first | refine VX.meek rfl ?_ | refine VX.loadI rfl rfl au_l ?_ | refine VX.loadP rfl rfl rfl au_l ?_
  refine VX.meek rfl ?_
  first | refine VX.meek rfl ?_ | refine VX.loadI rfl rfl au_l ?_ | refine VX.loadP rfl rfl rfl au_l ?_
  refine VX.meek rfl ?_
  first | refine VX.sub rfl rfl (by omega) ?_ | refine VX.meek rfl ?_
  refine VX.slcI0 (r := l.length) rfl rfl rfl rfl rfl (show (((l ++ [o]).length : Nat) : Int) - 1 = _ by rw [hl]; omega) (by rw [hl]; omega) ?_
  refine VX.meek rfl ?_
  refine VX.store rfl rfl rfl rfl rfl au_s rfl ?_
  refine VX.nil ?_
  refine VC.ret ?_
  exact ⟨trivial, _, rfl, Cv.agg (CvL.cons (by rw [encL_append]; exact Cv.islcT (CvL.pure hp2) (.inl rfl)) CvL.nil)⟩
theorem changed_p (b : Bf) (o : BSt) (h1 : o.pos + o.out.length ≤ b.text.length) (h2 : b.past.length ≤ 256) (h3 : b.text.length ≤ 100000) (h4 : o.inn.length ≤ 100000) : CallP Tryz.prog 111 [bufT b, stpT o] (bufT (b.chg o)) := by
  have hp := buf_pure b
  have hw := with_p b.past o h2
  have hp2 := encL_pure cSt (wth b.past o)
  refine CallP.intro2 au_pu au_pu ?_
  refine CallT.intro tab_ok Tryz.func111 rfl (by kernel_rfl) (Nat.le_of_ble_eq_true rfl) ?_
  refine VC.reg tab_ok [2, 3] rfl ?_
  iterate 2 refine VX.newI rfl rfl ?_
  refine VX.new rfl rfl ?_
  refine VX.nil ?_
  refine VC.drw tab_ok [] [_, _, _, _, _, _, _, _, _, _, _, _, _, _, _, _, _, _, _, _, _, _, _, _, _] rfl (by kernel_rfl) (by kernel_rfl) ?_
  iterate 2 refine VX.meek rfl ?_
  first | refine VX.meek rfl ?_ | refine VX.loadI rfl rfl au_l ?_ | refine VX.loadP rfl rfl rfl au_l ?_
  first | refine VX.meek rfl ?_ | refine VX.loadI rfl rfl au_l ?_ | refine VX.loadP rfl rfl rfl au_l ?_
  refine VX.callP0 rfl rfl rfl (hw) ?_
  iterate 2 refine VX.meek rfl ?_
  first | refine VX.meek rfl ?_ | refine VX.loadI rfl rfl au_l ?_ | refine VX.loadP rfl rfl rfl au_l ?_
  refine VX.meek rfl ?_
  first | refine VX.meek rfl ?_ | refine VX.loadI rfl rfl au_l ?_ | refine VX.loadP rfl rfl rfl au_l ?_
  refine VX.strHe (r := o.pos) rfl rfl rfl rfl rfl (by omega) ?_
  refine VX.meek rfl ?_
  first | refine VX.meek rfl ?_ | refine VX.loadI rfl rfl au_l ?_ | refine VX.loadP rfl rfl rfl au_l ?_
  refine VX.strCat (a := b.text.take o.pos) (b := o.inn) rfl rfl (by rw [List.length_take]; omega) ?_
  refine VX.meek rfl ?_
  first | refine VX.meek rfl ?_ | refine VX.loadI rfl rfl au_l ?_ | refine VX.loadP rfl rfl rfl au_l ?_
  refine VX.meek rfl ?_
  first | refine VX.meek rfl ?_ | refine VX.loadI rfl rfl au_l ?_ | refine VX.loadP rfl rfl rfl au_l ?_
  refine VX.meek rfl ?_
  first | refine VX.meek rfl ?_ | refine VX.loadI rfl rfl au_l ?_ | refine VX.loadP rfl rfl rfl au_l ?_
  refine VX.meek (t := I64 (o.out.length : Nat)) rfl ?_
  first | refine VX.add rfl rfl (by omega) ?_ | refine VX.meek rfl ?_
  refine VX.strTl (p := o.pos + o.out.length) rfl rfl rfl rfl (by omega) (by omega) ?_
  refine VX.strCat (a := b.text.take o.pos ++ o.inn) (b := b.text.drop (o.pos + o.out.length)) rfl rfl (by rw [List.length_append, List.length_take, List.length_drop]; omega) ?_
  refine VX.meek rfl ?_
  refine VX.nil ?_
  refine VX.store rfl rfl rfl rfl rfl au_s rfl ?_
  refine VX.nil ?_
  refine VC.ret ?_
  exact ⟨trivial, _, rfl, Cv.agg (CvL.cons (Cv.pure (by simp only [T.pure, hp2])) (CvL.cons (Cv.nil _ (.inl rfl)) (CvL.cons (Cv.pure rfl) CvL.nil)))⟩
end
section
open Go.RowKit
set_option maxRecDepth 100000
set_option maxHeartbeats 1000000
theorem undo_none (b : Bf) (h : b.past = []) : CallP Tryz.prog 123 [bufT b] (.tup [bufT b.undo.1, BL b.undo.2]) := by
  have e : b.undo = (b, false) := by unfold Bf.undo; rw [h]; rfl
  rw [e]
  have hp := buf_pure b
  have hc := count_p b.past
  have hl : b.past.length = 0 := by rw [h]; rfl
  refine CallP.intro2 au_pu au_pu ?_
  refine CallT.intro tab_ok Tryz.func123 rfl (by kernel_rfl) (Nat.le_of_ble_eq_true rfl) ?_
  refine VC.reg tab_ok [1] rfl ?_
  refine VX.newI rfl rfl ?_
  refine VX.new rfl rfl ?_
  refine VX.meek rfl ?_
  refine VX.nil ?_
  refine VC.seq ?_
  refine VC.reg tab_ok [] rfl ?_
  iterate 2 refine VX.meek rfl ?_
  first | refine VX.meek rfl ?_ | refine VX.loadI rfl rfl au_l ?_ | refine VX.loadP rfl rfl rfl au_l ?_
  refine VX.callP0 rfl rfl rfl (hc) ?_
  refine VX.meek rfl ?_
  refine VX.nil ?_
  refine VC.cond rfl (fun hc0 => ?_) (fun hc0 => ?_)
  · (try simp only [au_std] at hc0)
    refine VC.reg tab_ok [] rfl ?_
    first | refine VX.meek rfl ?_ | refine VX.loadI rfl rfl au_l ?_ | refine VX.loadP rfl rfl rfl au_l ?_
    refine VX.store rfl rfl rfl rfl rfl au_s rfl ?_
    refine VX.meek rfl ?_
    refine VX.nil ?_
    refine VC.ret ?_
    exact ⟨trivial, _, rfl, Cv.tup (CvL.cons (Cv.agg (CvL.pure hp)) (CvL.cons (Cv.pure rfl) CvL.nil))⟩
  · exact absurd hc0 (by rw [hl]; simp)
theorem undo_some (p : List BSt) (o : BSt) (f : List BSt) (t : List UInt8) (hp : p.length ≤ 256) (hf : f.length ≤ 256) (ht : t.length ≤ 100000) (h1 : o.pos + o.inn.length ≤ t.length) (h2 : o.out.length ≤ 100000) : CallP Tryz.prog 123 [bufT ⟨p ++ [o], f, t⟩] (.tup [bufT ⟨p, wth f o, t.take o.pos ++ o.out ++ t.drop (o.pos + o.inn.length)⟩, BL true]) := by
  have hpb := buf_pure ⟨p ++ [o], f, t⟩
  have hp1 := encL_pure cSt p
  have hp2 := encL_pure cSt (wth f o)
  have hc := count_p (p ++ [o])
  have hla := last_p p o hp
  have hle := less_p p o hp
  have hw := with_p f o hf
  have hl : (p ++ [o]).length = p.length + 1 := by simp
  refine CallP.intro2 au_pu au_pu ?_
  refine CallT.intro tab_ok Tryz.func123 rfl (by kernel_rfl) (Nat.le_of_ble_eq_true rfl) ?_
  refine VC.reg tab_ok [1] rfl ?_
  refine VX.newI rfl rfl ?_
  refine VX.new rfl rfl ?_
  refine VX.meek rfl ?_
  refine VX.nil ?_
  refine VC.seq ?_
  refine VC.reg tab_ok [] rfl ?_
  iterate 2 refine VX.meek rfl ?_
  first | refine VX.meek rfl ?_ | refine VX.loadI rfl rfl au_l ?_ | refine VX.loadP rfl rfl rfl au_l ?_
  refine VX.callP0 rfl rfl rfl (hc) ?_
  refine VX.meek rfl ?_
  refine VX.nil ?_
  refine VC.cond rfl (fun hc0 => ?_) (fun hc0 => ?_)
  · exact absurd hc0 (by rw [hl]; simp; omega)
  · (try simp only [au_std] at hc0)
    refine VC.skip ?_
    refine VC.reg tab_ok [] rfl ?_
    iterate 2 refine VX.meek rfl ?_
    first | refine VX.meek rfl ?_ | refine VX.loadI rfl rfl au_l ?_ | refine VX.loadP rfl rfl rfl au_l ?_
    refine VX.callP0 rfl rfl rfl (hla) ?_
    refine VX.new rfl rfl ?_
    refine VX.store rfl rfl rfl rfl rfl au_s rfl ?_
    refine VX.nil ?_
    refine VC.drw tab_ok [] [_, _, _, _, _, _, _, _, _, _, _, _, _, _, _, _, _, _, _, _, _, _, _, _, _, _, _, _, _, _] rfl (by kernel_rfl) (by kernel_rfl) ?_
    iterate 2 refine VX.meek rfl ?_
    first | refine VX.meek rfl ?_ | refine VX.loadI rfl rfl au_l ?_ | refine VX.loadP rfl rfl rfl au_l ?_
    refine VX.callP0 rfl rfl rfl (hle) ?_
    iterate 3 refine VX.meek rfl ?_
    first | refine VX.meek rfl ?_ | refine VX.loadI rfl rfl au_l ?_ | refine VX.loadP rfl rfl rfl au_l ?_
    first | refine VX.meek rfl ?_ | refine VX.loadI rfl rfl au_l ?_ | refine VX.loadP rfl rfl rfl au_l ?_
    refine VX.callP0 rfl rfl rfl (hw) ?_
    iterate 2 refine VX.meek rfl ?_
    first | refine VX.meek rfl ?_ | refine VX.loadI rfl rfl au_l ?_ | refine VX.loadP rfl rfl rfl au_l ?_
    refine VX.meek rfl ?_
    first | refine VX.meek rfl ?_ | refine VX.loadI rfl rfl au_l ?_ | refine VX.loadP rfl rfl rfl au_l ?_
    refine VX.strHe (r := o.pos) rfl rfl rfl rfl rfl (by show o.pos ≤ t.length; omega) ?_
    refine VX.meek rfl ?_
    first | refine VX.meek rfl ?_ | refine VX.loadI rfl rfl au_l ?_ | refine VX.loadP rfl rfl rfl au_l ?_
    refine VX.strCat (a := t.take o.pos) (b := o.out) rfl rfl (by rw [List.length_take]; omega) ?_
    refine VX.meek rfl ?_
    first | refine VX.meek rfl ?_ | refine VX.loadI rfl rfl au_l ?_ | refine VX.loadP rfl rfl rfl au_l ?_
    refine VX.meek rfl ?_
    first | refine VX.meek rfl ?_ | refine VX.loadI rfl rfl au_l ?_ | refine VX.loadP rfl rfl rfl au_l ?_
    refine VX.meek rfl ?_
    first | refine VX.meek rfl ?_ | refine VX.loadI rfl rfl au_l ?_ | refine VX.loadP rfl rfl rfl au_l ?_
    refine VX.meek (t := I64 (o.inn.length : Nat)) rfl ?_
    first | refine VX.add rfl rfl (by omega) ?_ | refine VX.meek rfl ?_
    refine VX.strTl (p := o.pos + o.inn.length) rfl rfl rfl rfl (by omega) h1 ?_
    refine VX.strCat (a := t.take o.pos ++ o.out) (b := t.drop (o.pos + o.inn.length)) rfl rfl (by rw [List.length_append, List.length_take, List.length_drop]; omega) ?_
    refine VX.meek rfl ?_
    refine VX.nil ?_
    refine VX.store rfl rfl rfl rfl rfl au_s rfl ?_
    refine VX.meek rfl ?_
    refine VX.nil ?_
    refine VC.ret ?_
    exact ⟨trivial, _, rfl, Cv.tup (CvL.cons (Cv.agg (CvL.cons (Cv.pure (by simp only [T.pure, hp1])) (CvL.cons (Cv.pure (by simp only [T.pure, hp2])) (CvL.cons (Cv.pure rfl) CvL.nil)))) (CvL.cons (Cv.pure rfl) CvL.nil))⟩
theorem redo_none (b : Bf) (h : b.fut = []) : CallP Tryz.prog 124 [bufT b] (.tup [bufT b.redo.1, BL b.redo.2]) := by
  have e : b.redo = (b, false) := by unfold Bf.redo; rw [h]; rfl
  rw [e]
  have hp := buf_pure b
  have hc := count_p b.fut
  have hl : b.fut.length = 0 := by rw [h]; rfl
  refine CallP.intro2 au_pu au_pu ?_
  refine CallT.intro tab_ok Tryz.func124 rfl (by kernel_rfl) (Nat.le_of_ble_eq_true rfl) ?_
  refine VC.reg tab_ok [1] rfl ?_
  refine VX.newI rfl rfl ?_
  refine VX.new rfl rfl ?_
  refine VX.meek rfl ?_
  refine VX.nil ?_
  refine VC.seq ?_
  refine VC.reg tab_ok [] rfl ?_
  iterate 2 refine VX.meek rfl ?_
  first | refine VX.meek rfl ?_ | refine VX.loadI rfl rfl au_l ?_ | refine VX.loadP rfl rfl rfl au_l ?_
  refine VX.callP0 rfl rfl rfl (hc) ?_
  refine VX.meek rfl ?_
  refine VX.nil ?_
  refine VC.cond rfl (fun hc0 => ?_) (fun hc0 => ?_)
  · (try simp only [au_std] at hc0)
    refine VC.reg tab_ok [] rfl ?_
    first | refine VX.meek rfl ?_ | refine VX.loadI rfl rfl au_l ?_ | refine VX.loadP rfl rfl rfl au_l ?_
    refine VX.store rfl rfl rfl rfl rfl au_s rfl ?_
    refine VX.meek rfl ?_
    refine VX.nil ?_
    refine VC.ret ?_
    exact ⟨trivial, _, rfl, Cv.tup (CvL.cons (Cv.agg (CvL.pure hp)) (CvL.cons (Cv.pure rfl) CvL.nil))⟩
  · exact absurd hc0 (by rw [hl]; simp)
theorem redo_some (p : List BSt) (o : BSt) (f : List BSt) (t : List UInt8) (hp : p.length ≤ 256) (hf : f.length ≤ 256) (ht : t.length ≤ 100000) (h1 : o.pos + o.out.length ≤ t.length) (h2 : o.inn.length ≤ 100000) : CallP Tryz.prog 124 [bufT ⟨p, f ++ [o], t⟩] (.tup [bufT ⟨wth p o, f, t.take o.pos ++ o.inn ++ t.drop (o.pos + o.out.length)⟩, BL true]) := by
  have hpb := buf_pure ⟨p, f ++ [o], t⟩
  have hp1 := encL_pure cSt f
  have hp2 := encL_pure cSt (wth p o)
  have hc := count_p (f ++ [o])
  have hla := last_p f o hf
  have hle := less_p f o hf
  have hw := with_p p o hp
  have hl : (f ++ [o]).length = f.length + 1 := by simp
  refine CallP.intro2 au_pu au_pu ?_
  refine CallT.intro tab_ok Tryz.func124 rfl (by kernel_rfl) (Nat.le_of_ble_eq_true rfl) ?_
  refine VC.reg tab_ok [1] rfl ?_
  refine VX.newI rfl rfl ?_
  refine VX.new rfl rfl ?_
  refine VX.meek rfl ?_
  refine VX.nil ?_
  refine VC.seq ?_
  refine VC.reg tab_ok [] rfl ?_
  iterate 2 refine VX.meek rfl ?_
  first | refine VX.meek rfl ?_ | refine VX.loadI rfl rfl au_l ?_ | refine VX.loadP rfl rfl rfl au_l ?_
  refine VX.callP0 rfl rfl rfl (hc) ?_
  refine VX.meek rfl ?_
  refine VX.nil ?_
  refine VC.cond rfl (fun hc0 => ?_) (fun hc0 => ?_)
  · exact absurd hc0 (by rw [hl]; simp; omega)
  · (try simp only [au_std] at hc0)
    refine VC.skip ?_
    refine VC.reg tab_ok [] rfl ?_
    iterate 2 refine VX.meek rfl ?_
    first | refine VX.meek rfl ?_ | refine VX.loadI rfl rfl au_l ?_ | refine VX.loadP rfl rfl rfl au_l ?_
    refine VX.callP0 rfl rfl rfl (hla) ?_
    refine VX.new rfl rfl ?_
    refine VX.store rfl rfl rfl rfl rfl au_s rfl ?_
    refine VX.nil ?_
    refine VC.drw tab_ok [] [_, _, _, _, _, _, _, _, _, _, _, _, _, _, _, _, _, _, _, _, _, _, _, _, _, _, _, _, _, _] rfl (by kernel_rfl) (by kernel_rfl) ?_
    iterate 2 refine VX.meek rfl ?_
    first | refine VX.meek rfl ?_ | refine VX.loadI rfl rfl au_l ?_ | refine VX.loadP rfl rfl rfl au_l ?_
    first | refine VX.meek rfl ?_ | refine VX.loadI rfl rfl au_l ?_ | refine VX.loadP rfl rfl rfl au_l ?_
    refine VX.callP0 rfl rfl rfl (hw) ?_
    iterate 3 refine VX.meek rfl ?_
    first | refine VX.meek rfl ?_ | refine VX.loadI rfl rfl au_l ?_ | refine VX.loadP rfl rfl rfl au_l ?_
    refine VX.callP0 rfl rfl rfl (hle) ?_
    iterate 2 refine VX.meek rfl ?_
    first | refine VX.meek rfl ?_ | refine VX.loadI rfl rfl au_l ?_ | refine VX.loadP rfl rfl rfl au_l ?_
    refine VX.meek rfl ?_
    first | refine VX.meek rfl ?_ | refine VX.loadI rfl rfl au_l ?_ | refine VX.loadP rfl rfl rfl au_l ?_
    refine VX.strHe (r := o.pos) rfl rfl rfl rfl rfl (by show o.pos ≤ t.length; omega) ?_
    refine VX.meek rfl ?_
    first | refine VX.meek rfl ?_ | refine VX.loadI rfl rfl au_l ?_ | refine VX.loadP rfl rfl rfl au_l ?_
    refine VX.strCat (a := t.take o.pos) (b := o.inn) rfl rfl (by rw [List.length_take]; omega) ?_
    refine VX.meek rfl ?_
    first | refine VX.meek rfl ?_ | refine VX.loadI rfl rfl au_l ?_ | refine VX.loadP rfl rfl rfl au_l ?_
    refine VX.meek rfl ?_
    first | refine VX.meek rfl ?_ | refine VX.loadI rfl rfl au_l ?_ | refine VX.loadP rfl rfl rfl au_l ?_
    refine VX.meek rfl ?_
    first | refine VX.meek rfl ?_ | refine VX.loadI rfl rfl au_l ?_ | refine VX.loadP rfl rfl rfl au_l ?_
    refine VX.meek (t := I64 (o.out.length : Nat)) rfl ?_
    first | refine VX.add rfl rfl (by omega) ?_ | refine VX.meek rfl ?_
    refine VX.strTl (p := o.pos + o.out.length) rfl rfl rfl rfl (by omega) h1 ?_
    refine VX.strCat (a := t.take o.pos ++ o.inn) (b := t.drop (o.pos + o.out.length)) rfl rfl (by rw [List.length_append, List.length_take, List.length_drop]; omega) ?_
    refine VX.meek rfl ?_
    refine VX.nil ?_
    refine VX.store rfl rfl rfl rfl rfl au_s rfl ?_
    refine VX.meek rfl ?_
    refine VX.nil ?_
    refine VC.ret ?_
    exact ⟨trivial, _, rfl, Cv.tup (CvL.cons (Cv.agg (CvL.cons (Cv.pure (by simp only [T.pure, hp2])) (CvL.cons (Cv.pure (by simp only [T.pure, hp1])) (CvL.cons (Cv.pure rfl) CvL.nil)))) (CvL.cons (Cv.pure rfl) CvL.nil))⟩
theorem undo_p (b : Bf) (ok : b.Ok) : CallP Tryz.prog 123 [bufT b] (.tup [bufT b.undo.1, BL b.undo.2]) := by
  cases hp : b.past.getLast? with
  | none => exact undo_none b (List.getLast?_eq_none_iff.1 hp)
  | some o =>
    obtain ⟨l, hl⟩ := List.getLast?_eq_some_iff.1 hp
    have hlen := ok.len
    have hf := ok.few
    have hu := ok.u
    rw [hl, List.reverse_append, List.reverse_singleton, List.singleton_append] at hu
    obtain ⟨h1, h2, h3, h4⟩ := hu
    have hr := unT_len h2
    have hr2 := okU_len h4
    obtain ⟨p, f, t⟩ := b
    dsimp only at hl h2 hf hlen hr hr2
    subst hl
    rw [List.length_append, List.length_singleton] at hf
    have e : (⟨l ++ [o], f, t⟩ : Bf).undo = (⟨l, wth f o, t.take o.pos ++ o.out ++ t.drop (o.pos + o.inn.length)⟩, true) := by
      unfold Bf.undo
      simp only [List.getLast?_append, List.getLast?_singleton, Option.some_or, List.dropLast_concat]
    rw [e]
    exact undo_some l o f t (by omega) (by omega) (by omega) h2 (by omega)
theorem redo_p (b : Bf) (ok : b.Ok) : CallP Tryz.prog 124 [bufT b] (.tup [bufT b.redo.1, BL b.redo.2]) := by
  cases hp : b.fut.getLast? with
  | none => exact redo_none b (List.getLast?_eq_none_iff.1 hp)
  | some o =>
    obtain ⟨l, hl⟩ := List.getLast?_eq_some_iff.1 hp
    have hlen := ok.len
    have hf := ok.few
    have hu := ok.f
    rw [hl, List.reverse_append, List.reverse_singleton, List.singleton_append] at hu
    obtain ⟨h1, h2, h3, h4⟩ := hu
    have hr := reT_len h2
    have hr2 := okF_len h4
    obtain ⟨p, f, t⟩ := b
    dsimp only at hl h2 hf hlen hr hr2
    subst hl
    rw [List.length_append, List.length_singleton] at hf
    have e : (⟨p, l ++ [o], t⟩ : Bf).redo = (⟨wth p o, l, t.take o.pos ++ o.inn ++ t.drop (o.pos + o.out.length)⟩, true) := by
      unfold Bf.redo
      simp only [List.getLast?_append, List.getLast?_singleton, Option.some_or, List.dropLast_concat]
    rw [e]
    exact redo_some p o l t (by omega) (by omega) (by omega) h2 (by omega)
def okB (v : UInt8) : Bool := v.toNat == 10 || (decide (32 ≤ v.toNat) && decide (v.toNat ≤ 126))
def rightB (s : List UInt8) : Bool := s.all okB
theorem rightB_at {s : List UInt8} (h : rightB s = true) {i : Nat} (hi : i < s.length) : okB (s[i]?.getD 0) = true := by
  rw [List.getElem?_eq_getElem hi]
  exact List.all_eq_true.1 h _ (List.getElem_mem hi)
theorem rightB_not {s : List UInt8} {i : Nat} (hi : i < s.length) (h : okB (s[i]?.getD 0) = false) : rightB s = false := by
  cases hr : rightB s with
  | false => rfl
  | true => rw [rightB_at hr hi] at h; cases h
theorem right_p (s : List UInt8) (hs : s.length ≤ 100000) : CallP Tryz.prog 40 [strT s] (BL (rightB s)) := by
  refine CallP.intro2 au_pu au_pu ?_
  refine CallT.intro tab_ok Tryz.func40 rfl (by kernel_rfl) (Nat.le_of_ble_eq_true rfl) ?_
  refine VC.reg tab_ok [] rfl ?_
  refine VX.meek rfl ?_
  refine VX.nil ?_
  refine VC.seq ?_
  refine VC.reg tab_ok [] rfl ?_
  refine VX.meek rfl ?_
  refine VX.meek (t := I64 (s.length : Nat)) rfl ?_
  refine VX.meek rfl ?_
  refine VX.nil ?_
  refine VC.block ?_
  refine VC.loopS (σ := Nat) (fun j => s.length - j) (fun j => j ≤ s.length ∧ rightB (s.take j) = true) (fun j => [(6, I64 (j : Nat))]) (fun j => []) [0, 5] rfl (0) ?_ ?_ ?_
  · refine ⟨[], rfl, by first | trivial | decide, by first | rfl | (simp only [noO, Bool.and_true, Bool.and_eq_true]; first | assumption | (refine ⟨?_, ?_⟩ <;> assumption)) | (simp only [noO, *, Bool.and_true, Bool.true_and, Bool.and_self]; done), ?_, ?_⟩ <;> (repeat' first | exact trivial | exact CvB_n | exact CvB_d | exact CvB_o rfl | refine CvE_app ?_ ?_ | refine CvE_cons rfl ?_ ?_ | refine CvH_cons ?_ ?_ | refine CvB_c rfl ?_ | fail) <;> first | exact au_v | (exact CvL.pure rfl)
  · exact ⟨Nat.zero_le _, rfl⟩
  rintro j hj
  refine VC.reg tab_ok [] rfl ?_
  refine VX.meek rfl ?_
  refine VX.nil ?_
  refine VC.seq ?_
  refine VC.cond rfl (fun hc0 => ?_) (fun hc0 => ?_)
  · (try simp only [au_std] at hc0); obtain ⟨hj1, hj2⟩ := hj; have hat : s[j]? = some (s[j]?.getD 0) := (by rw [List.getElem?_eq_getElem (by omega)]; rfl); have hnx : rightB (s.take (j + 1)) = (okB (s[j]?.getD 0)) := (by unfold rightB at *; rw [List.take_add_one, List.all_append, hj2, hat]; simp)
    refine VC.skip ?_
    refine VC.seq ?_
    refine VC.block ?_
    refine VC.reg tab_ok [] rfl ?_
    iterate 2 refine VX.meek rfl ?_
    refine VX.nil ?_
    refine VC.reg tab_ok [] rfl ?_
    iterate 2 refine VX.meek rfl ?_
    refine VX.idxY rfl rfl rfl rfl rfl hat ?_
    iterate 2 refine VX.meek rfl ?_
    refine' VX.merge (d := 24) [_, _, _, _, _, _, _, _, _, _, _] rfl ?_ rfl ?_
    rotate_left
    · refine VX.guard rfl rfl (fun hb4_4 => ?_) (fun hb4_4 => ?_)
      · have ghb4_4 := hb4_4
        try simp only [au_std, Bool.not_true, Bool.not_false] at ghb4_4
        refine VX.meek rfl ?_
        refine VX.guardT rfl rfl hb4_4 ?_
        refine VX.meek rfl ?_
        refine VX.guardT rfl rfl hb4_4 ?_
        refine VX.idxY rfl rfl rfl rfl rfl hat ?_
        refine VX.guardT rfl rfl hb4_4 ?_
        refine VX.meek rfl ?_
        refine VX.guardT rfl rfl hb4_4 ?_
        refine VX.meek rfl ?_
        refine' VX.merge (d := 23) [_, _, _, _, _] rfl ?_ rfl ?_
        rotate_left
        · refine VX.guard rfl rfl (fun hb4_9 => ?_) (fun hb4_9 => ?_)
          · have ghb4_9 := hb4_9
            try simp only [au_std, Bool.not_true, Bool.not_false] at ghb4_9
            refine VX.meek rfl ?_
            refine VX.guardT rfl rfl hb4_9 ?_
            refine VX.meek rfl ?_
            refine VX.guardT rfl rfl hb4_9 ?_
            refine VX.idxY rfl rfl rfl rfl rfl hat ?_
            refine VX.guardT rfl rfl hb4_9 ?_
            refine VX.meek rfl ?_
            refine VX.guardT rfl rfl hb4_4 ?_
            refine VX.pickO rfl (fun _ => rfl) ?_
            exact VX.nil ⟨rfl, rfl⟩
          · refine VX.guardF rfl rfl hb4_9 ?_
            iterate 2 refine VX.guardF rfl rfl hb4_9 ?_
            refine VX.guardT rfl rfl hb4_4 ?_
            exact VX.pickO rfl (fun h => absurd (h.symm.trans hb4_9) (by decide)) (VX.nil ⟨rfl, rfl⟩)
        refine VX.pickA rfl (fun _ => rfl) ?_
        exact VX.nil ⟨rfl, rfl⟩
      · refine VX.guardF rfl rfl hb4_4 ?_
        iterate 3 refine VX.guardF rfl rfl hb4_4 ?_
        iterate 4 refine VX.guardU rfl rfl ?_
        refine VX.guardF rfl rfl hb4_4 ?_
        exact VX.pickA rfl (fun h => absurd (h.symm.trans hb4_4) (by decide)) (VX.nil ⟨rfl, rfl⟩)
    refine VX.nil ?_
    refine VC.cond rfl (fun hc1 => ?_) (fun hc1 => ?_)
    · (try simp only [au_std] at hc1); have e1 : rightB s = false := rightB_not (i := j) (by omega) (by unfold okB; simp; omega)
      refine VC.reg tab_ok [] rfl ?_
      refine VX.meek rfl ?_
      refine VX.nil ?_
      refine VC.ret ?_
      exact ⟨trivial, _, rfl, Cv.eq (by rw [e1]; rfl) rfl⟩
    · (try simp only [au_std] at hc1); have e1 : rightB (s.take (j + 1)) = true := (by rw [hnx]; unfold okB; simp; omega)
      refine VC.skip ?_
      refine VC.regN tab_ok [] rfl ?_
      first | refine VX.add rfl rfl (by omega) ?_ | refine VX.meek rfl ?_
      refine VX.meek rfl ?_
      refine VX.nil ?_
      refine ⟨j + 1, by (try dsimp only); omega, ?_, (by refine ⟨[], rfl, by first | trivial | decide, by first | rfl | (simp only [noO, Bool.and_true, Bool.and_eq_true]; first | assumption | (refine ⟨?_, ?_⟩ <;> assumption)) | (simp only [noO, *, Bool.and_true, Bool.true_and, Bool.and_self]; done), ?_, ?_⟩ <;> (repeat' first | exact trivial | exact CvB_n | exact CvB_d | exact CvB_o rfl | refine CvE_app ?_ ?_ | refine CvE_cons rfl ?_ ?_ | refine CvH_cons ?_ ?_ | refine CvB_c rfl ?_ | fail) <;> first | exact au_v | (first | exact CvL.pure rfl | exact Cv.pure rfl))⟩
      exact ⟨by omega, e1⟩
  · (try simp only [au_std] at hc0); obtain ⟨hj1, hj2⟩ := hj; obtain rfl : j = s.length := (by omega)
    refine VC.exit ?_
    refine VC.reg tab_ok [] rfl ?_
    refine VX.meek rfl ?_
    refine VX.nil ?_
    refine VC.ret ?_
    exact ⟨trivial, _, rfl, Cv.eq (by rw [List.take_length] at hj2; rw [hj2]; rfl) rfl⟩
theorem insert_p (b : Bf) (k : Nat) (s : List UInt8) (h1 : k ≤ b.text.length) (h2 : b.past.length ≤ 256) (h3 : b.text.length + s.length ≤ 4096) (h4 : s ≠ []) (h5 : rightB s = true) : CallP Tryz.prog 81 [bufT b, I64 k, strT s] (.tup [bufT (b.chg ⟨k, [], s⟩), I64 0]) := by
  have hp := buf_pure b
  have hr := right_p s (by omega)
  have hch := changed_p b ⟨k, [], s⟩ (by dsimp only [List.length_nil]; omega) h2 (by omega) (by dsimp only; omega)
  have hp2 := buf_pure (b.chg ⟨k, [], s⟩)
  have hn : (s == []) = false := by cases s with | nil => exact absurd rfl h4 | cons a l => rfl
  refine CallP.intro2 au_pu au_pu ?_
  refine CallT.intro tab_ok Tryz.func81 rfl (by kernel_rfl) (Nat.le_of_ble_eq_true rfl) ?_
  refine VC.reg tab_ok [3] rfl ?_
  refine VX.newI rfl rfl ?_
  refine VX.new rfl rfl ?_
  refine VX.meek rfl ?_
  refine VX.nil ?_
  refine VC.seq ?_
  refine VC.reg tab_ok [] rfl ?_
  refine VX.meek rfl ?_
  refine VX.strEqN (a := s) (b := []) rfl rfl ?_; rw [hn]
  refine VX.nil ?_
  refine VC.condF rfl ?_
  refine VC.skip ?_
  refine VC.seq ?_
  refine VC.reg tab_ok [] rfl ?_
  iterate 3 refine VX.meek rfl ?_
  refine' VX.merge (d := 19) [_, _, _, _, _, _] rfl ?_ rfl ?_
  rotate_left
  · refine VX.guard rfl rfl (fun hb3_2 => ?_) (fun hb3_2 => ?_)
    · have ghb3_2 := hb3_2
      try simp only [au_std, Bool.not_true, Bool.not_false] at ghb3_2
      refine VX.meek rfl ?_
      refine VX.guardT rfl rfl hb3_2 ?_
      refine VX.meek rfl ?_
      refine VX.guardT rfl rfl hb3_2 ?_
      first | refine VX.meek rfl ?_ | refine VX.loadI rfl rfl au_l ?_ | refine VX.loadP rfl rfl rfl au_l ?_
      refine VX.guardT rfl rfl hb3_2 ?_
      refine VX.meek (t := I64 (b.text.length : Nat)) rfl ?_
      refine VX.guardT rfl rfl hb3_2 ?_
      refine VX.meek rfl ?_
      refine VX.pickO rfl (fun _ => rfl) ?_
      exact VX.nil ⟨rfl, rfl⟩
    · refine VX.guardF rfl rfl hb3_2 ?_
      iterate 3 refine VX.guardF rfl rfl hb3_2 ?_
      exact VX.pickO rfl (fun h => absurd (h.symm.trans hb3_2) (by decide)) (VX.nil ⟨rfl, rfl⟩)
  refine VX.nil ?_
  refine VC.cond rfl (fun hc1 => ?_) (fun hc1 => ?_)
  · (try simp only [au_std] at hc1); omega
  · (try simp only [au_std] at hc1)
    refine VC.skip ?_
    refine VC.seq ?_
    refine VC.reg tab_ok [] rfl ?_
    refine VX.meek rfl ?_
    refine VX.callP0 rfl rfl rfl (hr) ?_
    refine VX.meek (t := BL false) (by rw [h5]; rfl) ?_
    refine VX.nil ?_
    refine VC.condF rfl ?_
    refine VC.skip ?_
    refine VC.seq ?_
    refine VC.reg tab_ok [] rfl ?_
    refine VX.meek rfl ?_
    first | refine VX.meek rfl ?_ | refine VX.loadI rfl rfl au_l ?_ | refine VX.loadP rfl rfl rfl au_l ?_
    refine VX.meek (t := I64 (b.text.length : Nat)) rfl ?_
    refine VX.meek rfl ?_
    refine VX.meek (t := I64 (s.length : Nat)) rfl ?_
    first | refine VX.add rfl rfl (by omega) ?_ | refine VX.meek rfl ?_
    refine VX.meek rfl ?_
    refine VX.nil ?_
    refine VC.cond rfl (fun hc3 => ?_) (fun hc3 => ?_)
    · (try simp only [au_std] at hc3); omega
    · (try simp only [au_std] at hc3)
      refine VC.skip ?_
      refine VC.reg tab_ok [] rfl ?_
      first | refine VX.meek rfl ?_ | refine VX.loadI rfl rfl au_l ?_ | refine VX.loadP rfl rfl rfl au_l ?_
      iterate 3 refine VX.meek rfl ?_
      refine VX.callP0 rfl rfl rfl (hch) ?_
      refine VX.store rfl rfl rfl rfl rfl au_s rfl ?_
      refine VX.meek rfl ?_
      refine VX.nil ?_
      refine VC.ret ?_
      exact ⟨trivial, _, rfl, Cv.tup (CvL.cons (Cv.agg (CvL.pure hp2)) (CvL.cons (Cv.pure rfl) CvL.nil))⟩
theorem delete_p (b : Bf) (i k : Nat) (h1 : i < k) (hk : k ≤ b.text.length) (h2 : b.past.length ≤ 256) (h3 : b.text.length ≤ 4096) : CallP Tryz.prog 110 [bufT b, I64 i, I64 k] (.tup [bufT (b.chg ⟨i, (b.text.take k).drop i, []⟩), I64 0]) := by
  have hp := buf_pure b
  have hch := changed_p b ⟨i, (b.text.take k).drop i, []⟩ (by dsimp only; rw [List.length_drop, List.length_take]; omega) h2 (by omega) (by dsimp only [List.length_nil]; omega)
  have hp2 := buf_pure (b.chg ⟨i, (b.text.take k).drop i, []⟩)
  refine CallP.intro2 au_pu au_pu ?_
  refine CallT.intro tab_ok Tryz.func110 rfl (by kernel_rfl) (Nat.le_of_ble_eq_true rfl) ?_
  refine VC.reg tab_ok [3] rfl ?_
  refine VX.newI rfl rfl ?_
  refine VX.new rfl rfl ?_
  refine VX.meek rfl ?_
  refine VX.nil ?_
  refine VC.seq ?_
  refine VC.reg tab_ok [] rfl ?_
  iterate 3 refine VX.meek rfl ?_
  refine' VX.merge (d := 14) [_, _, _, _] rfl ?_ rfl ?_
  rotate_left
  · refine VX.guard rfl rfl (fun hb1_2 => ?_) (fun hb1_2 => ?_)
    · have ghb1_2 := hb1_2
      try simp only [au_std, Bool.not_true, Bool.not_false] at ghb1_2
      refine VX.meek rfl ?_
      refine VX.guardT rfl rfl hb1_2 ?_
      refine VX.meek rfl ?_
      refine VX.guardT rfl rfl hb1_2 ?_
      refine VX.meek rfl ?_
      refine VX.pickO rfl (fun _ => rfl) ?_
      exact VX.nil ⟨rfl, rfl⟩
    · refine VX.guardF rfl rfl hb1_2 ?_
      refine VX.guardF rfl rfl hb1_2 ?_
      exact VX.pickO rfl (fun h => absurd (h.symm.trans hb1_2) (by decide)) (VX.nil ⟨rfl, rfl⟩)
  refine VX.meek rfl ?_
  refine' VX.merge (d := 21) [_, _, _, _, _, _] rfl ?_ rfl ?_
  rotate_left
  · refine VX.guard rfl rfl (fun hb1_7 => ?_) (fun hb1_7 => ?_)
    · have ghb1_7 := hb1_7
      try simp only [au_std, Bool.not_true, Bool.not_false] at ghb1_7
      refine VX.meek rfl ?_
      refine VX.guardT rfl rfl hb1_7 ?_
      refine VX.meek rfl ?_
      refine VX.guardT rfl rfl hb1_7 ?_
      first | refine VX.meek rfl ?_ | refine VX.loadI rfl rfl au_l ?_ | refine VX.loadP rfl rfl rfl au_l ?_
      refine VX.guardT rfl rfl hb1_7 ?_
      refine VX.meek (t := I64 (b.text.length : Nat)) rfl ?_
      refine VX.guardT rfl rfl hb1_7 ?_
      refine VX.meek rfl ?_
      refine VX.pickO rfl (fun _ => rfl) ?_
      exact VX.nil ⟨rfl, rfl⟩
    · refine VX.guardF rfl rfl hb1_7 ?_
      iterate 3 refine VX.guardF rfl rfl hb1_7 ?_
      exact VX.pickO rfl (fun h => absurd (h.symm.trans hb1_7) (by decide)) (VX.nil ⟨rfl, rfl⟩)
  refine VX.nil ?_
  refine VC.cond rfl (fun hc0 => ?_) (fun hc0 => ?_)
  · (try simp only [au_std] at hc0); omega
  · (try simp only [au_std] at hc0)
    refine VC.skip ?_
    refine VC.seq ?_
    refine VC.reg tab_ok [] rfl ?_
    iterate 3 refine VX.meek rfl ?_
    refine VX.nil ?_
    refine VC.cond rfl (fun hc1 => ?_) (fun hc1 => ?_)
    · (try simp only [au_std] at hc1); omega
    · (try simp only [au_std] at hc1)
      refine VC.skip ?_
      refine VC.drw tab_ok [] [_, _, _, _, _, _, _, _, _] rfl (by kernel_rfl) (by kernel_rfl) ?_
      first | refine VX.meek rfl ?_ | refine VX.loadI rfl rfl au_l ?_ | refine VX.loadP rfl rfl rfl au_l ?_
      iterate 2 refine VX.meek rfl ?_
      first | refine VX.meek rfl ?_ | refine VX.loadI rfl rfl au_l ?_ | refine VX.loadP rfl rfl rfl au_l ?_
      iterate 2 refine VX.meek rfl ?_
      refine VX.strMd (p := i) (r := k) rfl rfl rfl rfl rfl rfl rfl (by omega) hk ?_
      refine VX.meek rfl ?_
      refine VX.callP0 rfl rfl rfl (hch) ?_
      refine VX.nil ?_
      refine VX.store rfl rfl rfl rfl rfl au_s rfl ?_
      refine VX.meek rfl ?_
      refine VX.nil ?_
      refine VC.ret ?_
      exact ⟨trivial, _, rfl, Cv.tup (CvL.cons (Cv.agg (CvL.pure hp2)) (CvL.cons (Cv.pure rfl) CvL.nil))⟩
theorem bnew_p (s : List UInt8) (h : s.length ≤ 4096) (hr : rightB s = true) : CallP Tryz.prog 23 [strT s] (.tup [bufT ⟨[], [], s⟩, I64 0]) := by
  have hri := right_p s (by omega)
  refine CallP.intro2 au_pu au_pu ?_
  refine CallT.intro tab_ok Tryz.func23 rfl (by kernel_rfl) (Nat.le_of_ble_eq_true rfl) ?_
  refine VC.reg tab_ok [] rfl ?_
  refine VX.new rfl rfl ?_
  refine VX.meek rfl ?_
  refine VX.nil ?_
  refine VC.seq ?_
  refine VC.reg tab_ok [] rfl ?_
  refine VX.meek rfl ?_
  refine VX.meek (t := I64 (s.length : Nat)) rfl ?_
  refine VX.meek rfl ?_
  refine VX.nil ?_
  refine VC.cond rfl (fun hc0 => ?_) (fun hc0 => ?_)
  · (try simp only [au_std] at hc0); omega
  · (try simp only [au_std] at hc0)
    refine VC.skip ?_
    refine VC.seq ?_
    refine VC.reg tab_ok [] rfl ?_
    refine VX.meek rfl ?_
    refine VX.callP0 rfl rfl rfl (hri) ?_
    refine VX.meek (t := BL false) (by rw [hr]; rfl) ?_
    refine VX.nil ?_
    refine VC.condF rfl ?_
    refine VC.skip ?_
    refine VC.reg tab_ok [] rfl ?_
    iterate 2 refine VX.meek rfl ?_
    refine VX.store rfl rfl rfl rfl rfl au_s rfl ?_
    refine VX.meek rfl ?_
    refine VX.nil ?_
    refine VC.ret ?_
    exact ⟨trivial, _, rfl, Cv.tup (CvL.cons (Cv.agg (CvL.cons (Cv.nil _ (.inl rfl)) (CvL.cons (Cv.nil _ (.inl rfl)) (CvL.cons (Cv.pure rfl) CvL.nil)))) (CvL.cons (Cv.pure rfl) CvL.nil))⟩
theorem len_p (b : Bf) : CallP Tryz.prog 80 [bufT b] (I64 (b.text.length : Nat)) := by
  have hp := buf_pure b
  refine CallP.intro2 au_pu au_pu ?_
  refine CallT.intro tab_ok Tryz.func80 rfl (by kernel_rfl) (Nat.le_of_ble_eq_true rfl) ?_
  refine VC.reg tab_ok [1] rfl ?_
  refine VX.newI rfl rfl ?_
  refine VX.meek rfl ?_
  refine VX.nil ?_
  refine VC.reg tab_ok [] rfl ?_
  refine VX.meek rfl ?_
  first | refine VX.meek rfl ?_ | refine VX.loadI rfl rfl au_l ?_ | refine VX.loadP rfl rfl rfl au_l ?_
  iterate 2 refine VX.meek rfl ?_
  refine VX.nil ?_
  refine VC.ret ?_
  exact ⟨trivial, _, rfl, Cv.eq rfl rfl⟩
theorem btext_p (b : Bf) : CallP Tryz.prog 29 [bufT b] (strT b.text) := by
  have hp := buf_pure b
  refine CallP.intro2 au_pu au_pu ?_
  refine CallT.intro tab_ok Tryz.func29 rfl (by kernel_rfl) (Nat.le_of_ble_eq_true rfl) ?_
  refine VC.reg tab_ok [1] rfl ?_
  refine VX.newI rfl rfl ?_
  refine VX.meek rfl ?_
  refine VX.nil ?_
  refine VC.reg tab_ok [] rfl ?_
  refine VX.meek rfl ?_
  first | refine VX.meek rfl ?_ | refine VX.loadI rfl rfl au_l ?_ | refine VX.loadP rfl rfl rfl au_l ?_
  refine VX.meek rfl ?_
  refine VX.nil ?_
  refine VC.ret ?_
  exact ⟨trivial, _, rfl, Cv.eq rfl rfl⟩
end
section
open Go.RowKit
set_option maxRecDepth 100000
set_option maxHeartbeats 1000000
theorem lines_p (b : Bf) (h : b.text.length ≤ 4096) : CallP Tryz.prog 103 [bufT b] (I64 (lnN b.text : Nat)) := by
  have hp := buf_pure b
  have hc := cnt_p b.text
  have hcl := List.count_le_length (a := (10 : UInt8)) (l := b.text)
  refine CallP.intro2 au_pu au_pu ?_
  refine CallT.intro tab_ok Tryz.func103 rfl (by kernel_rfl) (Nat.le_of_ble_eq_true rfl) ?_
  refine VC.reg tab_ok [1] rfl ?_
  refine VX.newI rfl rfl ?_
  refine VX.meek rfl ?_
  refine VX.nil ?_
  refine VC.reg tab_ok [] rfl ?_
  refine VX.meek rfl ?_
  first | refine VX.meek rfl ?_ | refine VX.loadI rfl rfl au_l ?_ | refine VX.loadP rfl rfl rfl au_l ?_
  refine VX.callP0 rfl rfl rfl (hc) ?_
  first | refine VX.add rfl rfl (by omega) ?_ | refine VX.meek rfl ?_
  refine VX.meek rfl ?_
  refine VX.nil ?_
  refine VC.ret ?_
  exact ⟨trivial, _, rfl, Cv.eq rfl rfl⟩
theorem ixN_rg (s : List UInt8) : -1 ≤ ixN s ∧ ixN s < (s.length : Int) := by
  unfold ixN
  cases h : nlN s with
  | none => dsimp only; omega
  | some i => have := nlN_lt h; dsimp only; omega
theorem lnFrom_succ (s : List UInt8) (n : Nat) : ((lnFrom s (n + 1) : Nat) : Int) = lnFrom s n + (ixN (s.drop (lnFrom s n)) + 1) := by
  conv => lhs; unfold lnFrom
  unfold ixN
  cases h : nlN (s.drop (lnFrom s n)) with
  | none => dsimp only; omega
  | some i => dsimp only; omega
theorem lnTo_yes {s : List UInt8} {n : Nat} (h : 0 ≤ ixN (s.drop (lnFrom s n))) : ((lnTo s n : Nat) : Int) = lnFrom s n + ixN (s.drop (lnFrom s n)) := by
  unfold lnTo ixN at *
  generalize nlN (s.drop (lnFrom s n)) = o at *
  cases o with
  | none => exact absurd h (by decide)
  | some i => dsimp only; omega
theorem lnTo_no {s : List UInt8} {n : Nat} (h : ixN (s.drop (lnFrom s n)) < 0) : lnTo s n = s.length := by
  unfold lnTo ixN at *
  generalize nlN (s.drop (lnFrom s n)) = o at *
  cases o with
  | none => rfl
  | some i => dsimp only at *; omega
theorem bounds_p (b : Bf) (n : Nat) (h : b.text.length ≤ 4096) (hn : n ≤ 100000) : CallP Tryz.prog 119 [bufT b, I64 n] (.tup [I64 (lnFrom b.text n : Nat), I64 (lnTo b.text n : Nat)]) := by
  have hp := buf_pure b
  have hle := lnFrom_le b.text
  have hix := fun k => ixB_p (b.text.drop (lnFrom b.text k))
  have hrg := fun k => ixN_rg (b.text.drop (lnFrom b.text k))
  have hsu := lnFrom_succ b.text
  have hlt := lnTo_ok b.text n
  refine CallP.intro2 au_pu au_pu ?_
  refine CallT.intro tab_ok Tryz.func119 rfl (by kernel_rfl) (Nat.le_of_ble_eq_true rfl) ?_
  refine VC.reg tab_ok [2] rfl ?_
  refine VX.newI rfl rfl ?_
  iterate 2 refine VX.meek rfl ?_
  refine VX.nil ?_
  refine VC.reg tab_ok [] rfl ?_
  refine VX.meek rfl ?_
  refine VX.nil ?_
  refine VC.seq ?_
  refine VC.reg tab_ok [] rfl ?_
  iterate 2 refine VX.meek rfl ?_
  refine VX.nil ?_
  refine VC.block ?_
  refine VC.loopS (σ := Nat) (fun i => n - i) (fun i => i ≤ n) (fun i => [(9, I64 (i : Nat)), (6, I64 (lnFrom b.text i : Nat))]) (fun i => []) [2, 8] rfl (0) ?_ ?_ ?_
  · refine ⟨[], rfl, by first | trivial | decide, by first | rfl | (simp only [noO, Bool.and_true, Bool.and_eq_true]; first | assumption | (refine ⟨?_, ?_⟩ <;> assumption)) | (simp only [noO, *, Bool.and_true, Bool.true_and, Bool.and_self]; done), ?_, ?_⟩ <;> (repeat' first | exact trivial | exact CvB_n | exact CvB_d | exact CvB_o rfl | refine CvE_app ?_ ?_ | refine CvE_cons rfl ?_ ?_ | refine CvH_cons ?_ ?_ | refine CvB_c rfl ?_ | fail) <;> first | exact au_v | (first | exact CvL.pure hp | exact CvL.pure rfl)
  · (try dsimp only); omega
  rintro i hi
  refine VC.reg tab_ok [] rfl ?_
  refine VX.meek rfl ?_
  refine VX.nil ?_
  refine VC.seq ?_
  refine VC.cond rfl (fun hc0 => ?_) (fun hc0 => ?_)
  · (try simp only [au_std] at hc0); have hl1 := hle i; have hl2 := hle (i + 1); have hx := hix i; have hr := hrg i; have hs := hsu i
    refine VC.skip ?_
    refine VC.seq ?_
    refine VC.block ?_
    refine VC.regN tab_ok [] rfl ?_
    iterate 2 refine VX.meek rfl ?_
    first | refine VX.meek rfl ?_ | refine VX.loadI rfl rfl au_l ?_ | refine VX.loadP rfl rfl rfl au_l ?_
    refine VX.meek rfl ?_
    refine VX.strTl (p := lnFrom b.text i) rfl rfl rfl rfl rfl hl1 ?_
    refine VX.callP0 rfl rfl rfl (hx) ?_
    first | refine VX.add rfl rfl (by omega) ?_ | refine VX.meek rfl ?_
    refine VX.add rfl rfl (by omega) ?_; rw [← hs]
    refine VX.meek rfl ?_
    refine VX.nil ?_
    refine VC.regN tab_ok [] rfl ?_
    first | refine VX.add rfl rfl (by omega) ?_ | refine VX.meek rfl ?_
    refine VX.meek rfl ?_
    refine VX.nil ?_
    refine ⟨i + 1, by (try dsimp only); omega, ?_, (by refine ⟨[], rfl, by first | trivial | decide, by first | rfl | (simp only [noO, Bool.and_true, Bool.and_eq_true]; first | assumption | (refine ⟨?_, ?_⟩ <;> assumption)) | (simp only [noO, *, Bool.and_true, Bool.true_and, Bool.and_self]; done), ?_, ?_⟩ <;> (repeat' first | exact trivial | exact CvB_n | exact CvB_d | exact CvB_o rfl | refine CvE_app ?_ ?_ | refine CvE_cons rfl ?_ ?_ | refine CvH_cons ?_ ?_ | refine CvB_c rfl ?_ | fail) <;> first | exact au_v | (first | exact CvL.pure hp | exact CvL.pure rfl))⟩
    (try dsimp only); omega
  · (try simp only [au_std] at hc0); obtain rfl : i = n := (by omega); have hl1 := hle i; have hx := hix i; have hr := hrg i
    refine VC.exit ?_
    refine VC.seq ?_
    refine VC.reg tab_ok [] rfl ?_
    refine VX.meek rfl ?_
    first | refine VX.meek rfl ?_ | refine VX.loadI rfl rfl au_l ?_ | refine VX.loadP rfl rfl rfl au_l ?_
    refine VX.meek rfl ?_
    refine VX.strTl (p := lnFrom b.text i) rfl rfl rfl rfl rfl hl1 ?_
    refine VX.callP0 rfl rfl rfl (hx) ?_
    refine VX.meek rfl ?_
    refine VX.nil ?_
    refine VC.reg tab_ok [] rfl ?_
    iterate 2 refine VX.meek rfl ?_
    refine VX.nil ?_
    refine VC.cond rfl (fun hc1 => ?_) (fun hc1 => ?_)
    · (try simp only [au_std] at hc1); have e1 := lnTo_yes hc1
      refine VC.reg tab_ok [] rfl ?_
      iterate 3 refine VX.meek rfl ?_
      refine VX.add rfl rfl (by omega) ?_; rw [← e1]
      iterate 2 refine VX.meek rfl ?_
      refine VX.nil ?_
      refine VC.ret ?_
      exact ⟨trivial, _, rfl, Cv.eq rfl rfl⟩
    · (try simp only [au_std] at hc1); have e1 := lnTo_no hc1
      refine VC.skip ?_
      refine VC.drw tab_ok [] [_, _, _, _, _, _] rfl (by kernel_rfl) (by kernel_rfl) ?_
      iterate 2 refine VX.meek rfl ?_
      first | refine VX.meek rfl ?_ | refine VX.loadI rfl rfl au_l ?_ | refine VX.loadP rfl rfl rfl au_l ?_
      refine VX.meek (t := I64 (b.text.length : Nat)) rfl ?_
      iterate 2 refine VX.meek rfl ?_
      iterate 2 refine VX.nil ?_
      refine VC.ret ?_
      exact ⟨trivial, _, rfl, Cv.eq (by rw [e1]) rfl⟩
theorem line_p (b : Bf) (n : Int) (h : b.text.length ≤ 4096) (hn : -100000 ≤ n ∧ n ≤ 100000) : CallP Tryz.prog 104 [bufT b, I64 n] (strT (lineN b.text n)) := by
  have hp := buf_pure b
  have hli := lines_p b h
  have hbo := bounds_p b n.toNat h (by omega)
  have hlt := lnTo_ok b.text n.toNat
  unfold lineN
  refine CallP.intro2 au_pu au_pu ?_
  refine CallT.intro tab_ok Tryz.func104 rfl (by kernel_rfl) (Nat.le_of_ble_eq_true rfl) ?_
  refine VC.reg tab_ok [2] rfl ?_
  refine VX.newI rfl rfl ?_
  refine VX.meek rfl ?_
  refine VX.nil ?_
  refine VC.seq ?_
  refine VC.reg tab_ok [] rfl ?_
  iterate 3 refine VX.meek rfl ?_
  refine' VX.merge (d := 14) [_, _, _, _, _] rfl ?_ rfl ?_
  rotate_left
  · refine VX.guard rfl rfl (fun hb1_2 => ?_) (fun hb1_2 => ?_)
    · have ghb1_2 := hb1_2
      try simp only [au_std, Bool.not_true, Bool.not_false] at ghb1_2
      refine VX.meek rfl ?_
      refine VX.guardT rfl rfl hb1_2 ?_
      first | refine VX.meek rfl ?_ | refine VX.loadI rfl rfl au_l ?_ | refine VX.loadP rfl rfl rfl au_l ?_
      refine VX.guardT rfl rfl hb1_2 ?_
      refine VX.callP0 rfl rfl rfl (hli) ?_
      refine VX.guardT rfl rfl hb1_2 ?_
      refine VX.meek rfl ?_
      refine VX.pickO rfl (fun _ => rfl) ?_
      exact VX.nil ⟨rfl, rfl⟩
    · refine VX.guardF rfl rfl hb1_2 ?_
      iterate 2 refine VX.guardF rfl rfl hb1_2 ?_
      exact VX.pickO rfl (fun h => absurd (h.symm.trans hb1_2) (by decide)) (VX.nil ⟨rfl, rfl⟩)
  refine VX.nil ?_
  refine VC.cond rfl (fun hc0 => ?_) (fun hc0 => ?_)
  · (try simp only [au_std] at hc0); rw [if_pos hc0]
    refine VC.reg tab_ok [] rfl ?_
    refine VX.meek rfl ?_
    refine VX.nil ?_
    refine VC.ret ?_
    exact ⟨trivial, _, rfl, Cv.eq rfl rfl⟩
  · (try simp only [au_std] at hc0); rw [if_neg (by omega)]; rw [Int.toNat_of_nonneg (show 0 ≤ n by omega)] at hbo
    refine VC.skip ?_
    refine VC.reg tab_ok [] rfl ?_
    first | refine VX.meek rfl ?_ | refine VX.loadI rfl rfl au_l ?_ | refine VX.loadP rfl rfl rfl au_l ?_
    refine VX.meek rfl ?_
    refine VX.callP0 rfl rfl rfl (hbo) ?_
    iterate 5 refine VX.meek rfl ?_
    refine VX.nil ?_
    refine VC.reg tab_ok [] rfl ?_
    refine VX.meek rfl ?_
    first | refine VX.meek rfl ?_ | refine VX.loadI rfl rfl au_l ?_ | refine VX.loadP rfl rfl rfl au_l ?_
    iterate 2 refine VX.meek rfl ?_
    refine VX.strMd (p := lnFrom b.text n.toNat) (r := lnTo b.text n.toNat) rfl rfl rfl rfl rfl rfl rfl hlt.1 hlt.2 ?_
    refine VX.meek rfl ?_
    refine VX.nil ?_
    refine VC.ret ?_
    exact ⟨trivial, _, rfl, Cv.eq rfl rfl⟩
theorem spot_p (b : Bf) (k : Nat) (h : b.text.length ≤ 4096) (hk : k ≤ b.text.length) : CallP Tryz.prog 44 [bufT b, I64 k] (.tup [I64 ((spotN b.text k).1 : Nat), I64 ((spotN b.text k).2 : Nat)]) := by
  have hp := buf_pure b
  have hl : (b.text.take k).length = k := by rw [List.length_take]; omega
  have hc := cnt_p (b.text.take k)
  have hx := lixB_p (b.text.take k) (by omega)
  have hrg := lix_rg (b.text.take k) (b.text.take k).length
  have hcol := lix_col (b.text.take k)
  unfold spotN
  refine CallP.intro2 au_pu au_pu ?_
  refine CallT.intro tab_ok Tryz.func44 rfl (by kernel_rfl) (Nat.le_of_ble_eq_true rfl) ?_
  refine VC.reg tab_ok [2] rfl ?_
  refine VX.newI rfl rfl ?_
  iterate 2 refine VX.meek rfl ?_
  refine VX.nil ?_
  refine VC.reg tab_ok [] rfl ?_
  refine VX.meek rfl ?_
  first | refine VX.meek rfl ?_ | refine VX.loadI rfl rfl au_l ?_ | refine VX.loadP rfl rfl rfl au_l ?_
  refine VX.meek rfl ?_
  refine VX.maxX rfl rfl ?_; rw [show max (k : Int) 0 = (k : Int) by omega]
  refine VX.meek rfl ?_
  first | refine VX.meek rfl ?_ | refine VX.loadI rfl rfl au_l ?_ | refine VX.loadP rfl rfl rfl au_l ?_
  refine VX.meek (t := I64 (b.text.length : Nat)) rfl ?_
  refine VX.minX rfl rfl ?_; rw [show min (k : Int) (b.text.length : Int) = (k : Int) by omega]
  refine VX.strHe (r := k) rfl rfl rfl rfl rfl hk ?_
  refine VX.meek rfl ?_
  refine VX.nil ?_
  refine VC.reg tab_ok [] rfl ?_
  refine VX.meek rfl ?_
  refine VX.callP0 rfl rfl rfl (hc) ?_
  refine VX.meek rfl ?_
  refine VX.meek (t := I64 ((b.text.take k).length : Nat)) rfl ?_
  refine VX.meek rfl ?_
  refine VX.callP0 rfl rfl rfl (hx) ?_
  first | refine VX.sub rfl rfl (by omega) ?_ | refine VX.meek rfl ?_
  refine VX.sub rfl rfl (by omega) ?_; rw [hcol]
  iterate 2 refine VX.meek rfl ?_
  refine VX.nil ?_
  refine VC.ret ?_
  exact ⟨trivial, _, rfl, Cv.eq rfl rfl⟩
theorem place_p (b : Bf) (line col : Int) (h : b.text.length ≤ 4096) (hl : -100000 ≤ line ∧ line ≤ 2 ^ 62) (hc : -100000 ≤ col ∧ col ≤ 2 ^ 62) : CallP Tryz.prog 105 [bufT b, I64 line, I64 col] (I64 (placeN b.text line col : Nat)) := by
  have hp := buf_pure b
  have hli := lines_p b h
  have hcl := List.count_le_length (a := (10 : UInt8)) (l := b.text)
  have hn1 : 1 ≤ lnN b.text := by unfold lnN; omega
  have hn2 : lnN b.text ≤ 4097 := by unfold lnN; omega
  have hcn := clampN_le line (lnN b.text - 1)
  have hbo := bounds_p b (clampN line (lnN b.text - 1)) h (by omega)
  have e1 : min (max line 0) (((lnN b.text : Nat) : Int) - 1) = ((clampN line (lnN b.text - 1) : Nat) : Int) := by unfold clampN; omega
  have hlt := lnTo_ok b.text (clampN line (lnN b.text - 1))
  unfold placeN
  generalize clampN line (lnN b.text - 1) = m at *
  have e2 : min (max col 0) (((lnTo b.text m : Nat) : Int) - ((lnFrom b.text m : Nat) : Int)) = ((clampN col (lnTo b.text m - lnFrom b.text m) : Nat) : Int) := by unfold clampN; omega
  have hcn2 := clampN_le col (lnTo b.text m - lnFrom b.text m)
  refine CallP.intro2 au_pu au_pu ?_
  refine CallT.intro tab_ok Tryz.func105 rfl (by kernel_rfl) (Nat.le_of_ble_eq_true rfl) ?_
  refine VC.reg tab_ok [3] rfl ?_
  refine VX.newI rfl rfl ?_
  refine VX.meek rfl ?_
  refine VX.nil ?_
  refine VC.drw tab_ok [] [_, _, _, _, _, _, _, _, _, _, _, _, _] rfl (by kernel_rfl) (by kernel_rfl) ?_
  first | refine VX.meek rfl ?_ | refine VX.loadI rfl rfl au_l ?_ | refine VX.loadP rfl rfl rfl au_l ?_
  refine VX.meek rfl ?_
  first | refine VX.maxX rfl rfl ?_ | refine VX.meek rfl ?_
  first | refine VX.meek rfl ?_ | refine VX.loadI rfl rfl au_l ?_ | refine VX.loadP rfl rfl rfl au_l ?_
  refine VX.callP0 rfl rfl rfl (hli) ?_
  first | refine VX.sub rfl rfl (by omega) ?_ | refine VX.meek rfl ?_
  refine VX.minX rfl rfl ?_; rw [e1]
  refine VX.callP0 rfl rfl rfl (hbo) ?_
  iterate 5 refine VX.meek rfl ?_
  iterate 2 refine VX.nil ?_
  refine VC.reg tab_ok [] rfl ?_
  iterate 2 refine VX.meek rfl ?_
  first | refine VX.maxX rfl rfl ?_ | refine VX.meek rfl ?_
  iterate 2 refine VX.meek rfl ?_
  first | refine VX.sub rfl rfl (by omega) ?_ | refine VX.meek rfl ?_
  refine VX.minX rfl rfl ?_; rw [e2]
  first | refine VX.add rfl rfl (by omega) ?_ | refine VX.meek rfl ?_
  refine VX.meek rfl ?_
  refine VX.nil ?_
  refine VC.ret ?_
  exact ⟨trivial, _, rfl, Cv.eq rfl rfl⟩
end
end Go.Proofs.YtofmninnienjhaaGreatDoor
