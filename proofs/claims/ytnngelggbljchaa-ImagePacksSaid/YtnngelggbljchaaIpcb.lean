/-
  The proof's lemmas, part 2.
-/
import Derived.Test.YtnngelggbljchaaIpca
import Derived.OrdersIn
import Derived.Scope
import Derived.Maps.RangeRun
import Derived.Lib.ConvBytes
import Derived.Test.YtnngelggbljchaaProg
import Derived.KernelRfl
namespace Go.Proofs.Ytnngelggbljchaa
set_option linter.unusedSimpArgs false
set_option linter.unusedVariables false
section
open Go.RowKit
section
variable {P : Program} {tab : Tab} {n m kb : Nat} {l : List Oper} {E : Env} {H : Hp} {r : List Stp} {X0 : Nat → Prop} {M0 : Mp}
theorem made_none {L : Nat → Prop} {k : Nat} {s : Stp} (hs : r[k]? = some s) (hn : s.nb = none) (b : Nat) : made r H (fun j => L j ∨ j = k) b ↔ made r H L b := by
  constructor
  · rintro ⟨j, s', h1, h2, h3 | h3, h4⟩
    · exact ⟨j, s', h1, h2, h3, h4⟩
    · subst h3; rw [hs] at h1; injection h1 with h1; subst h1; exact absurd hn h2
  · rintro ⟨j, s', h1, h2, h3, h4⟩
    exact ⟨j, s', h1, h2, .inl h3, h4⟩
theorem lookD_none {L : Nat → Prop} {k : Nat} {s : Stp} (hs : r[k]? = some s) (hn : s.nb = none) (b : Nat) : lookD r H (fun j => L j ∨ j = k) b = lookD r H L b := by
  unfold lookD
  by_cases h1 : b < H.length
  · rw [if_pos h1, if_pos h1]
  · rw [if_neg h1, if_neg h1]
    by_cases h2 : made r H L b
    · rw [if_pos h2, if_pos ((made_none hs hn b).2 h2)]
    · rw [if_neg h2, if_neg fun h => h2 ((made_none hs hn b).1 h)]
theorem Jd.next [Dr] {L : Nat → Prop} {a : Act} {M M' : Mp} (hO : OrdB l m) (h : Jd n kb (l.take m) r E H X0 L a M) {k : Nat} {o : Oper} {s : Stp} {u : Value} (ho : (l.take m)[k]? = some o) (hs : r[k]? = some s) (hk : ¬ L k) (hd : ∀ d, o.dst = some d → d < n)
    (hE : Evo X0 M M') (hS : Sim (lookD r H (fun j => L j ∨ j = k)) (fun b => b < H.length ∨ made r H (fun j => L j ∨ j = k) b) X0 M') (hr : Rep M' s.t u) : Jd n kb (l.take m) r E H X0 (fun j => L j ∨ j = k) (a.put o.dst u) M' := by
  have keep : ∀ d v, o.dst ≠ some d → a.tmps[d]? = some v → (a.put o.dst u).tmps[d]? = some v := fun d v hne hv => by
    cases hod : o.dst with
    | none => exact hv
    | some d' => simp only [Act.put]; rw [Array.getElem?_setIfInBounds_ne (fun e => hne (by rw [hod, e]))]; exact hv
  refine ⟨hS, fun j oj sj d hoj hsj hL hdj => ?_, fun d t ht hno => ?_, ?_, ?_, Nat.le_trans h.ge hE.size⟩
  · by_cases hjk : j = k
    · subst hjk
      rw [ho] at hoj; rw [hs] at hsj
      injection hoj with hoj; injection hsj with hsj; subst hoj hsj
      refine ⟨u, ?_, hr⟩
      rw [hdj]
      simp [Act.put, h.sz, hd d hdj]
    · obtain ⟨v, h1, h2⟩ := h.slot j oj sj d hoj hsj (hL.resolve_right hjk) hdj
      exact ⟨v, keep d v (hO.pair k o j oj ho hoj hjk d hdj).1 h1, Rep.stays hE.stays _ _ h2⟩
  · obtain ⟨v, h1, h2⟩ := h.old d t ht fun j oj hoj hL => hno j oj hoj (.inl hL)
    exact ⟨v, keep d v (hno k o ho (.inr rfl)) h1, Rep.stays hE.stays _ _ h2⟩
  · cases o.dst <;> simp [Act.put, h.sz]
  · cases o.dst <;> exact h.df.evo hE
theorem Jd.step [Dr] {im : List Nat} (hT : TabOk P tab) (hO : OrdB l m) (hr : r.length = (l.take m).length) (hrun : ∀ k o s, (l.take m)[k]? = some o → r[k]? = some s → StpOk P tab im l.toArray o (envAt (l.take m) r E k) (hpAt r H k) s)
    {L : Nat → Prop} {a : Act} {M : Mp} (h : Jd n kb (l.take m) r E H X0 L a M) (hc : Closed l L) {k : Nat} {o : Oper} (ho : (l.take m)[k]? = some o) (hk : ¬ L k) (hpre : ∀ e ∈ o.after, Region.binds .any e = true → L e.on) (hd : ∀ d, o.dst = some d → d < n)
    {r0 : Option Nat} {Q : Exit → Act → World → Prop} {K : Act → World → Prop} (hK : ∀ a' M', Evo X0 M M' → Jd n kb (l.take m) r E H X0 (fun j => L j ∨ j = k) a' M' → K a' M'.w) : wpOpIn (FW r0) 0 P l.toArray Q k K a M.w := by
  have hkl : k < (l.take m).length := (List.getElem?_eq_some_iff.1 ho).1
  have hol : l[k]? = some o := by rw [List.getElem?_take] at ho; split at ho; exact ho; cases ho
  have hs : r[k]? = some r[k] := List.getElem?_eq_getElem (by omega)
  have hstp := hrun k o _ ho hs
  generalize r[k] = s at hs hstp
  have hrd := fun (d : Nat) (t : T) => h.read hO hr hc ho hk hpre (d := d) (t := t)
  have hgd : ∀ g want d b, o.guard = some (g, want) → (l.toArray[g]?).bind (·.dst) = some d → (envAt (l.take m) r E k).get d = some (.v (.bool b)) → yielded l.toArray a.tmps g = some b := by
    intro g want d b hg hgd hb
    have hgd' : (l[g]?.bind fun x => x.dst) = some d := by simpa using hgd
    obtain ⟨u, h1, h2⟩ := hrd d _ (by simp [readsOf, Oper.looksAt, hg]; exact .inr hgd') hb
    obtain rfl := h2
    simp [yielded, hgd', h1]
  unfold wpOpIn
  simp only [List.getElem?_toArray, hol]
  rcases hstp with ⟨h1, h2, g, want, d, x, hg, hgdst, hb, hne⟩ | ⟨hg, hst⟩
  · have hw : Region.wanted o (yielded l.toArray a.tmps) = false := by
      have hgd' : (l[g]?.bind fun x => x.dst) = some d := by simpa using hgdst
      obtain ⟨u, q1, q2⟩ := hrd d _ (by simp [readsOf, Oper.looksAt, hg]; exact .inr hgd') hb
      obtain rfl := q2
      have hy : yielded l.toArray a.tmps g = match u with | .bool b => some b | _ => none := by simp only [yielded, List.getElem?_toArray, hgd', Option.bind_some, q1]; cases u <;> rfl
      simp only [Region.wanted, hg, hy]
      cases u <;> first | rfl | skip
      rename_i b
      cases b <;> cases want <;> first | rfl | exact absurd rfl hne
    rw [hw]
    refine ⟨fun _ _ => trivial, hK _ M (Evo.refl _ _) (h.next hO ho hs hk hd (Evo.refl _ _) (h.sim.congr (fun b => lookD_none hs h2 b) fun b => by rw [made_none hs h2]) (by rw [h1]; rfl))⟩
  · have hw : Region.wanted o (yielded l.toArray a.tmps) = true := by
      rcases hg with hg | ⟨g, want, d, hg, hgdst, hb⟩
      · simp [Region.wanted, hg]
      · have hy := hgd g want d want hg hgdst hb
        simp [Region.wanted, hg, hy]
    rw [hw, if_pos rfl]
    have hop : ∀ x ∈ o.op.operands.toList, ∀ t, (envAt (l.take m) r E k).opd x = some t → Rep M t (a.eval x) := by
      intro x hx t ht
      cases x with
      | tmp d =>
        obtain ⟨u, h1, h2⟩ := hrd d t (by simp only [readsOf, Oper.looksAt, List.mem_append, List.mem_filterMap]; exact .inl ⟨.tmp d, hx, rfl⟩) ht
        have : a.eval (.tmp d) = u := by show a.tmps.getD d undef = u; simp [h1]
        rw [this]; exact h2
      | const v => simp only [Env.opd] at ht; injection ht with ht; subst ht; exact rep_ofV v
      | func f => simp only [Env.opd] at ht; injection ht with ht; subst ht; exact ⟨[], [], rfl, rfl, rfl⟩
      | global g => simp only [Env.opd] at ht; injection ht with ht; subst ht; exact rfl
    have hnd : ∀ c, o.op ≠ .defer c := by
      rcases hst with ⟨t, nb, hm, -⟩ | ⟨f, args, ats, g, fs, cs, ts, hoc, -⟩
      · exact opM_op hm
      · rw [hoc]; simp
    refine wpIn_of hnd ?_
    rcases hst with ⟨t, nb, hm, hst⟩ | ⟨f, args, ats, g, fs, cs, ts, hoc, hf, hts, hcall, hnb⟩
    · have hmk := opM_ok (M := M) (ρ' := a.eval) hT (h.look (by omega : k ≤ r.length)) hop hm
      rcases hst with ⟨hst, hnb⟩ | ⟨⟨e, cs⟩, rfl, hst, hnb⟩
      case inr =>
        obtain ⟨u, w', q1, q2, q3, q4⟩ := imm_new h.sim hmk (opM_new hm)
        rw [q1]
        exact hK _ _ q2 (h.next hO ho hs hk hd q2 ((h.sim.world q2 q3).congr (fun b => lookD_none hs hnb b) fun b => by rw [made_none hs hnb]) (by rw [hst]; exact q4))
      subst hst
      cases nb with
      | none =>
        obtain ⟨u, h1, h2⟩ := hmk
        rw [h1]
        exact hK _ M (Evo.refl _ _) (h.next hO ho hs hk hd (Evo.refl _ _) (h.sim.congr (fun b => lookD_none hs hnb b) fun b => by rw [made_none hs hnb]) h2)
      | some p =>
        obtain ⟨e, cs⟩ := p
        simp only [Option.map_some] at hnb
        obtain ⟨u, ar, h1, h2, h3⟩ := hmk
        rw [h1]
        have hid : ¬ (hpAt r H k).length < H.length := by have := (hp_start (r := r) (H := H) (k := k) (by omega)).1; omega
        have hnd : ¬ ((hpAt r H k).length < H.length ∨ made r H L (hpAt r H k).length) := by
          rintro (hh | ⟨j, s', q1, q2, q3, q4⟩)
          · exact hid hh
          · exact hk (new_ne q1 q2 hs (by rw [hnb]; simp) q4 ▸ q3)
        obtain ⟨Ev, S, hsh⟩ := h.sim.new (nx := (hpAt r H k).length) hnd (w := { M.w with heap := M.w.heap.push (.cells ar e) }) rfl rfl ⟨rfl, fun _ => Nat.le_refl _⟩ rfl (fun j _ hj => by simp at hj) h2
        have hmade : ∀ b, made r H (fun j => L j ∨ j = k) b ↔ made r H L b ∨ b = (hpAt r H k).length := fun b => by
          constructor
          · rintro ⟨j, s', q1, q2, q3 | q3, q4⟩
            · exact .inl ⟨j, s', q1, q2, q3, q4⟩
            · subst q3; exact .inr q4.symm
          · rintro (⟨j, s', q1, q2, q3, q4⟩ | q)
            · exact ⟨j, s', q1, q2, .inl q3, q4⟩
            · exact ⟨k, s, hs, by rw [hnb]; simp, .inr rfl, q.symm⟩
        refine hK _ (newM M _ _) Ev (h.next hO ho hs hk hd Ev (S.congr (fun b => ?_) (fun b => ?_)) (h3 _ (if_pos rfl) hsh))
        · unfold lookD
          by_cases hb : b = (hpAt r H k).length
          · subst hb
            rw [if_neg hid, if_pos ((hmade _).2 (.inr rfl)), if_pos rfl]
            exact (new_at hs hnb).2
          · rw [if_neg hb]
            by_cases hbH : b < H.length
            · rw [if_pos hbH, if_pos hbH]
            · rw [if_neg hbH, if_neg hbH]
              by_cases hmb : made r H L b
              · rw [if_pos hmb, if_pos ((hmade b).2 (.inl hmb))]
              · rw [if_neg hmb, if_neg fun hh => ((hmade b).1 hh).elim hmb hb]
        · rw [hmade, or_assoc]
    · obtain ⟨dst, op, ty, pos, after, guard⟩ := o
      simp only at hoc hop hd
      subst hoc
      obtain ⟨us, ws, e1, r1, r2⟩ := hop f (by simp [Op.operands, Call.operands]) _ hf
      have r3 := optL_ok (M := M) (ρ' := a.eval) _ _ (fun x hx t ht => hop x (by simp [Op.operands, Call.operands]; exact .inr (by simpa using hx)) t ht) hts
      have hrr : (execOp a.eval ⟨dst, .call ⟨.value f, args, ats⟩, ty, pos, after, guard⟩).run P M.w = .ok (.enter g (us ++ args.toList.map a.eval ++ ws).toArray) M.w := by
        simp only [execOp, resolve, Sem.run_bind, e1, Deferred.ofValue, Sem.run_pure, Result.andThen_ok, invoke]
        rw [run_goFunc _ _ _ hcall.2.2.1, ← map_arr]
        simp
      rw [hrr]
      refine ⟨fun hh => (by cases hh), callsIn_wide.2 ((hcall.run X0 M _ h.sim.bnd h.sim.glo (RepL.append (RepL.append r1 r3) r2)).mono ?_)⟩
      rintro e w' ⟨u, rfl, k1, k2, k3⟩
      exact hK _ _ k1 (h.next hO ho hs hk hd k1 ((h.sim.world k1 k3).congr (fun b => lookD_none hs hnb b) fun b => by rw [made_none hs hnb]) k2)
theorem made_all {k b : Nat} (hk : k ≤ r.length) (hb : b < (hpAt r H k).length) (hH : ¬ b < H.length) : ∃ j s, j < k ∧ r[j]? = some s ∧ s.nb ≠ none ∧ (hpAt r H j).length = b := by
  induction k with
  | zero => exfalso; apply hH; cases r <;> exact hb
  | succ k ih =>
    have hs : r[k]? = some r[k] := List.getElem?_eq_getElem (by omega)
    have h1 := hpAt_succ r H k _ hs
    by_cases hlt : b < (hpAt r H k).length
    · obtain ⟨j, s, q1, q2⟩ := ih (by omega) hlt
      exact ⟨j, s, by omega, q2⟩
    · rw [h1] at hb
      cases hn : r[k].nb with
      | none => rw [hn] at hb; simp only [newsOf, List.append_nil] at hb; exact absurd hb hlt
      | some cs => rw [hn] at hb; simp only [newsOf, List.length_append, List.length_singleton] at hb; exact ⟨k, _, by omega, hs, by rw [hn]; simp, by omega⟩
theorem Jd.fin [Dr] {L : Nat → Prop} {a : Act} {M : Mp} (hO : OrdB l m) (hr : r.length = (l.take m).length) (h : Jd n kb (l.take m) r E H X0 L a M) (hL : ∀ k, k < (l.take m).length → L k) : St n kb (envAt (l.take m) r E (l.take m).length) (hpAt r H (l.take m).length) X0 a M := by
  have hdis : ∀ (i j : Nat) (oi oj : Oper), (l.take m)[i]? = some oi → (l.take m)[j]? = some oj → i ≠ j → ∀ d, oi.dst = some d → oj.dst ≠ some d := fun i j oi oj hi hj hij d hdi => (hO.pair j oj i oi hj hi hij d hdi).1
  have hmd : ∀ b, made r H L b ↔ ¬ b < H.length ∧ b < (hpAt r H r.length).length := fun b => by
    constructor
    · rintro ⟨k, s, q1, q2, -, q4⟩
      have hk := (List.getElem?_eq_some_iff.1 q1).1
      obtain ⟨cs, hcs⟩ := Option.ne_none_iff_exists'.1 q2
      have h1 := (new_at (H := H) q1 hcs).1
      have h2 := (hpAt_keep (r := r) (H := H) (k + 1) r.length hk (Nat.le_refl _)).1
      have h3 := (hp_start (r := r) (H := H) (k := k) (by omega)).1
      omega
    · rintro ⟨h1, h2⟩
      obtain ⟨j, s, q1, q2, q3, q4⟩ := made_all (Nat.le_refl _) h2 h1
      exact ⟨j, s, q2, q3, hL j (by omega), q4⟩
  refine ⟨fun d t ht => ?_, h.sz, h.df, h.ge, h.sim.congr (fun b => ?_) (fun b => ?_)⟩
  · obtain ⟨g1, g2⟩ := env_get (E := E) (d := d) hr (Nat.le_refl _) hdis
    by_cases hw : ∃ j oj, j < (l.take m).length ∧ (l.take m)[j]? = some oj ∧ oj.dst = some d
    · obtain ⟨j, oj, hj, hoj, hdj⟩ := hw
      have hs : r[j]? = some r[j] := List.getElem?_eq_getElem (by omega)
      rw [g1 j oj _ hj hoj hs hdj] at ht
      injection ht with ht; subst ht
      exact h.slot j oj _ d hoj hs (hL j hj) hdj
    · rw [g2 fun j oj hj hoj hdj => hw ⟨j, oj, hj, hoj, hdj⟩] at ht
      exact h.old d t ht fun j oj hoj _ hdj => hw ⟨j, oj, (List.getElem?_eq_some_iff.1 hoj).1, hoj, hdj⟩
  · rw [← hr]
    unfold lookD
    by_cases hb : b < H.length
    · rw [if_pos hb]; exact (hp_start (Nat.le_refl _)).2 b hb
    · rw [if_neg hb]
      by_cases hm : made r H L b
      · rw [if_pos hm]
      · rw [if_neg hm]
        exact Classical.byContradiction fun hne => hm ((hmd b).2 ⟨hb, blkH_lt fun e => hne (by rw [e])⟩)
  · rw [← hr, hmd]
    have := (hp_start (r := r) (H := H) (k := r.length) (Nat.le_refl _)).1
    omega
end
end
section
open Go.RowKit
section
variable {z : Bool} {P : Program} {tab : Tab} {n m kb lb : Nat} {l : List Oper} {E : Env} {H : Hp} {r : List Stp} {X0 : Nat → Prop} {M0 : Mp}
def lsd (listed : Array Bool) (k : Nat) : Prop := listed.getD k false = true
theorem getD_flip {listed : Array Bool} {k : Nat} (h : k < listed.size) : listed.getD k true = listed.getD k false := by simp [h]
theorem lsd_set {listed : Array Bool} {i : Nat} (h : i < listed.size) (k : Nat) : lsd (listed.setIfInBounds i true) k ↔ lsd listed k ∨ k = i := by
  unfold lsd
  by_cases hk : k = i
  · subst hk; simp [h]
  · rw [getD_set_ne false (Ne.symm hk)]; simp [hk]
theorem ready_facts {listed : Array Bool} (hsz : listed.size = l.length) {i : Nat} (hi : i ∈ Region.ready .any l.toArray listed) : ∃ o, l[i]? = some o ∧ ¬ lsd listed i ∧ ∀ e ∈ o.after, Region.binds .any e = true → lsd listed e.on := by
  obtain ⟨hu, o, ho, hall⟩ := mem_ready.1 hi
  have ho' : l[i]? = some o := by simpa using ho
  have hil := (List.getElem?_eq_some_iff.1 ho').1
  refine ⟨o, ho', fun hL => ?_, hall⟩
  rw [getD_flip (by omega)] at hu
  unfold lsd at hL
  rw [hu] at hL; cases hL
theorem ready_of {listed : Array Bool} (hsz : listed.size = l.length) {i : Nat} {o : Oper} (ho : l[i]? = some o) (hn : ¬ lsd listed i) (hp : ∀ e ∈ o.after, Region.binds .any e = true → lsd listed e.on) : i ∈ Region.ready .any l.toArray listed := by
  have hil := (List.getElem?_eq_some_iff.1 ho).1
  refine mem_ready.2 ⟨?_, o, by simpa using ho, hp⟩
  rw [getD_flip (by omega)]
  unfold lsd at hn
  simpa using hn
theorem tail_any (hO : OrdB l m) {r0 : Option Nat} {Q : Exit → Act → World → Prop} : ∀ (fuel : Nat) (listed : Array Bool) (i : Nat) (a : Act) (w : World), l.length ≤ fuel + i → listed.size = l.length → m ≤ i → i ≤ l.length → (∀ k, lsd listed k ↔ k < i) → wpListIn (FW r0) 0 P l.toArray Q (l.drop i) a w → wpAnyIn (FW r0) 0 P .any l.toArray Q fuel listed a w := by
  intro fuel
  have stop : ∀ (listed : Array Bool) (i : Nat) (a : Act) (w : World), listed.size = l.length → i = l.length → (∀ k, lsd listed k ↔ k < i) → wpListIn (FW r0) 0 P l.toArray Q (l.drop i) a w → Region.ready .any l.toArray listed = [] ∧ Q .normal a w := by
    intro listed i a w hsz hi hL hw
    subst hi
    rw [List.drop_length] at hw
    refine ⟨?_, hw⟩
    cases hr : Region.ready .any l.toArray listed with
    | nil => rfl
    | cons j js =>
      obtain ⟨o, ho, hn, -⟩ := ready_facts hsz (i := j) (by rw [hr]; exact List.mem_cons_self ..)
      exact absurd ((hL j).2 (List.getElem?_eq_some_iff.1 ho).1) hn
  induction fuel with
  | zero => exact fun listed i a w hf hsz hm hi hL hw => stop listed i a w hsz (by omega) hL hw
  | succ fuel ih =>
    intro listed i a w hf hsz hm hi hL hw
    rcases Nat.lt_or_ge i l.length with hlt | hge
    · have ho : l[i]? = some l[i] := List.getElem?_eq_getElem hlt
      refine ⟨fun hr => ?_, fun j hj => ?_⟩
      · have : i ∈ Region.ready .any l.toArray listed := ready_of hsz ho (fun h => by have := (hL i).1 h; omega) fun e he hb => (hL e.on).2 (by have := back_at l 0 i _ hO.back ho e he hb; omega)
        rw [hr] at this; cases this
      · obtain ⟨o, hoj, hn, hp⟩ := ready_facts hsz hj
        have hjl := (List.getElem?_eq_some_iff.1 hoj).1
        have hji : ¬ j < i := fun h => hn ((hL j).2 h)
        have hji2 : ¬ i < j := fun h => by
          have hc : Closed l (lsd listed) := fun k ok hok hk e he hb => (hL e.on).2 (by have := (hL k).1 hk; have := back_at l 0 k ok hO.back hok e he hb; omega)
          have := mask_next hO.back hc hoj hp (hO.full j (by omega) hjl i h)
          have := (hL i).1 this; omega
        obtain rfl : j = i := by omega
        rw [ho] at hoj; injection hoj with hoj; subst hoj
        rw [List.drop_eq_getElem_cons hlt] at hw
        have hnext : ∀ a w, wpListIn (FW r0) 0 P l.toArray Q (l.drop (j + 1)) a w → wpAnyIn (FW r0) 0 P .any l.toArray Q fuel (listed.setIfInBounds j true) a w := fun a w hw => ih _ (j + 1) a w (by omega) (by simpa using hsz) (by omega) (by omega) (fun k => by rw [lsd_set (by omega), hL]; omega) hw
        unfold wpOpIn
        simp only [List.getElem?_toArray, ho]
        unfold wpListIn at hw
        split
        · rename_i hwt; rw [if_pos hwt] at hw
          exact Oper.wpIn_mono hnext hw
        · rename_i hwt; rw [if_neg hwt] at hw
          exact ⟨hw.1, hnext _ _ hw.2⟩
    · obtain ⟨h1, h2⟩ := stop listed i a w hsz (by omega) hL hw
      exact ⟨fun _ => h2, fun j hj => by rw [h1] at hj; cases hj⟩
def leftB (l : List Oper) (listed : Array Bool) : Nat := (List.range l.length).countP fun k => !listed.getD k false
theorem countP_less {α : Type} (f g : α → Bool) : ∀ l : List α, (∀ x ∈ l, g x = true → f x = true) → (∃ x ∈ l, f x = true ∧ g x = false) → l.countP g < l.countP f
  | [], _, h => by obtain ⟨x, hx, _⟩ := h; cases hx
  | x :: l, h1, h2 => by
    have hle : l.countP g ≤ l.countP f := List.countP_mono_left fun y hy => h1 y (List.mem_cons_of_mem _ hy)
    rw [List.countP_cons, List.countP_cons]
    by_cases hx : f x = true ∧ g x = false
    · simp [hx.1, hx.2]; omega
    · have h3 : ∃ y ∈ l, f y = true ∧ g y = false := by
        obtain ⟨y, hy, hfy⟩ := h2
        rcases List.mem_cons.1 hy with rfl | hy
        · exact absurd hfy hx
        · exact ⟨y, hy, hfy⟩
      have h4 := countP_less f g l (fun y hy => h1 y (List.mem_cons_of_mem _ hy)) h3
      have h5 := h1 x (List.mem_cons_self ..)
      cases hg : g x
      · simp; omega
      · simp [h5 hg]; omega
theorem leftB_set {listed : Array Bool} (hsz : listed.size = l.length) {i : Nat} (hi : i < l.length) (hn : ¬ lsd listed i) : leftB l (listed.setIfInBounds i true) < leftB l listed := by
  refine countP_less _ _ _ (fun k _ hk => ?_) ⟨i, List.mem_range.2 hi, ?_, ?_⟩
  · have h1 : ¬ lsd (listed.setIfInBounds i true) k := by unfold lsd; simpa using hk
    rw [lsd_set (by omega)] at h1
    have : ¬ lsd listed k := fun h => h1 (.inl h)
    unfold lsd at this; simpa using this
  · unfold lsd at hn; simpa using hn
  · have : lsd (listed.setIfInBounds i true) i := (lsd_set (by omega) i).2 (.inr rfl)
    unfold lsd at this; simpa using this
theorem draw_any [Dr] {im : List Nat} (hT : TabOk P tab) (hO : OrdB l m) (hd : dstB n l = true) (hr : r.length = (l.take m).length) (hrun : ∀ k o s, (l.take m)[k]? = some o → r[k]? = some s → StpOk P tab im l.toArray o (envAt (l.take m) r E k) (hpAt r H k) s)
    {r0 : Option Nat} {Q : Exit → Act → World → Prop} (hQ : ∀ a M, Evo X0 M0 M → St n kb (envAt (l.take m) r E (l.take m).length) (hpAt r H (l.take m).length) X0 a M → wpListIn (FW r0) 0 P l.toArray Q (l.drop m) a M.w) :
    ∀ (fuel : Nat) (listed : Array Bool) (a : Act) (M : Mp), leftB l listed ≤ fuel → listed.size = l.length → Closed l (lsd listed) → (∀ k, m ≤ k → ¬ lsd listed k) → Evo X0 M0 M → Jd n kb (l.take m) r E H X0 (lsd listed) a M → wpAnyIn (FW r0) 0 P .any l.toArray Q fuel listed a M.w := by
  have hml : (l.take m).length = m := by rw [List.length_take]; have := hO.le; omega
  intro fuel
  have fin : ∀ (fuel : Nat) (listed : Array Bool) (a : Act) (M : Mp), leftB l listed ≤ fuel → listed.size = l.length → (∀ k, m ≤ k → ¬ lsd listed k) → (∀ k, k < m → lsd listed k) → Evo X0 M0 M → Jd n kb (l.take m) r E H X0 (lsd listed) a M → wpAnyIn (FW r0) 0 P .any l.toArray Q fuel listed a M.w := by
    intro fuel listed a M hf hsz hno hall hE hJ
    refine tail_any hO fuel listed m a M.w ?_ hsz (Nat.le_refl _) hO.le (fun k => ⟨fun h => ?_, hall k⟩) (hQ a M hE (hJ.fin hO hr fun k hk => hall k (by omega)))
    · have h1 : leftB l listed = l.length - m := by
        unfold leftB
        have e : List.range l.length = List.range m ++ (List.range (l.length - m)).map (m + ·) := by
          rw [← List.range_add, show m + (l.length - m) = l.length from by have := hO.le; omega]
        rw [e, List.countP_append]
        have e1 : (List.range m).countP (fun k => !listed.getD k false) = 0 := by
          rw [List.countP_eq_zero]
          intro k hk
          have := hall k (List.mem_range.1 hk)
          unfold lsd at this
          simpa using this
        have e2 : ((List.range (l.length - m)).map (m + ·)).countP (fun k => !listed.getD k false) = l.length - m := by
          rw [List.countP_eq_length.2]
          · simp
          · intro k hk
            rw [List.mem_map] at hk
            obtain ⟨q, -, rfl⟩ := hk
            have := hno (m + q) (by omega)
            unfold lsd at this
            simpa using this
        omega
      omega
    · exact Nat.lt_of_not_le fun hk => hno k hk h
  induction fuel with
  | zero =>
    intro listed a M hf hsz hc hno hE hJ
    by_cases hall : ∀ k, k < m → lsd listed k
    · exact fin 0 listed a M hf hsz hno hall hE hJ
    · exfalso
      have h0 : leftB l listed = 0 := by omega
      unfold leftB at h0
      rw [List.countP_eq_zero] at h0
      apply hall
      intro k hk
      have := h0 k (List.mem_range.2 (by have := hO.le; omega))
      unfold lsd
      simpa using this
  | succ fuel ih =>
    intro listed a M hf hsz hc hno hE hJ
    by_cases hall : ∀ k, k < m → lsd listed k
    · exact fin _ listed a M hf hsz hno hall hE hJ
    · have hnext : ∃ i o, i < m ∧ l[i]? = some o ∧ ¬ lsd listed i ∧ ∀ e ∈ o.after, Region.binds .any e = true → lsd listed e.on := by
        have hex : ∃ k, k < m ∧ ¬ lsd listed k := by
          apply Classical.byContradiction
          intro h
          exact hall fun k hk => Classical.byContradiction fun hn => h ⟨k, hk, hn⟩
        obtain ⟨i, ⟨h1, h2⟩, hmin⟩ := least_nat hex
        have hile : i < l.length := by have := hO.le; omega
        have ho : l[i]? = some l[i] := List.getElem?_eq_getElem hile
        refine ⟨i, _, h1, ho, h2, fun e he hb => ?_⟩
        have hlt := back_at l 0 i _ hO.back ho e he hb
        exact Classical.byContradiction fun hn => by have := hmin e.on ⟨by omega, hn⟩; omega
      refine ⟨fun hr0 => ?_, fun i hi => ?_⟩
      · obtain ⟨i, o, h1, h2, h3, h4⟩ := hnext
        have := ready_of hsz h2 h3 h4
        rw [hr0] at this; cases this
      · obtain ⟨o, ho, hn, hp⟩ := ready_facts hsz hi
        have hil := (List.getElem?_eq_some_iff.1 ho).1
        have him : i < m := by
          refine Nat.lt_of_not_le fun hmi => ?_
          apply hall
          intro k hk
          exact mask_next hO.back hc ho hp (hO.full i hmi hil k (by omega))
        have hop : (l.take m)[i]? = some o := by rw [List.getElem?_take, if_pos him]; exact ho
        have hdo : ∀ d, o.dst = some d → d < n := fun d hdd => by
          unfold dstB at hd
          rw [List.all_eq_true] at hd
          have := hd o (List.mem_of_getElem? ho)
          rw [hdd] at this; simpa using this
        refine Jd.step hT hO hr hrun hJ hc hop hn hp hdo fun a' M' hE' hJ' => ?_
        have hiff : ∀ k, lsd (listed.setIfInBounds i true) k ↔ lsd listed k ∨ k = i := lsd_set (by omega)
        have hfun : lsd (listed.setIfInBounds i true) = fun k => lsd listed k ∨ k = i := funext fun k => propext (hiff k)
        refine ih _ a' M' ?_ (by simpa using hsz) (fun k ok hok hk e he hb => ?_) (fun k hk h => ?_) (hE.trans hE') (by rw [hfun]; exact hJ')
        · have := leftB_set hsz hil hn; omega
        · rw [hiff] at hk ⊢
          rcases hk with hk | rfl
          · exact .inl (hc k ok hok hk e he hb)
          · rw [ho] at hok; injection hok with hok; subst hok; exact .inl (hp e he hb)
        · rcases (hiff k).1 h with h | h
          · exact hno k hk h
          · omega
theorem VC.draw [Dr] {id : Nat} {QT : Exit → Env → Hp → Prop} (hT : TabOk P tab) (im : List Nat) (m : Nat) (hm : P.follows .mixedOrders = true) (hB : drawB n m l = true) (h : vcDraw P tab im (l.map (·.dst)) (l.take m) E H fun E H => vcSeq P tab im (l.map (·.dst)) (l.drop m) E H (QT .normal)) : VC z P n lb (.region id l.toArray true) QT E H := by
  intro X0 M a r0 kb hz hs
  obtain ⟨hO, hd⟩ := ord_of hB
  obtain ⟨r, E', H', hrun, hk⟩ := vcDraw_run (ops := l.toArray) _ _ _ h
  obtain ⟨h1, h2, h3, h4⟩ := run_at hrun
  refine wpIn_region_any hm ?_
  let M1 : Mp := ⟨M.β, M.X, { M.w with drawn := M.w.drawn + 1 }⟩
  have hE1 : Evo X0 M M1 := ⟨fun _ _ h => h, fun _ _ h => h, fun _ _ _ => rfl, fun _ _ h => h, rfl, ⟨rfl, fun _ => Nat.le_succ _⟩, rfl, Nat.le_refl _⟩
  have hs1 : St n kb E H X0 a M1 := ⟨fun d t ht => by obtain ⟨u, q1, q2⟩ := hs.tm d t ht; exact ⟨u, q1, Rep.stays hE1.stays _ _ q2⟩, hs.sz, hs.df.evo hE1, hs.ge, hs.sim.world hE1 fun _ _ => rfl⟩
  have hno : ∀ k, ¬ lsd (Array.replicate l.toArray.size false) k := fun k hk => by
    unfold lsd at hk
    by_cases hlt : k < l.length
    · simp [hlt] at hk
    · simp [hlt] at hk
  have hmd : ∀ b, ¬ made r H (lsd (Array.replicate l.toArray.size false)) b := fun b ⟨k, s, _, _, hk, _⟩ => hno k hk
  have := draw_any (r0 := r0) (X0 := X0) (M0 := M) (Q := Lift n kb lb X0 M QT) hT hO hd h1 h4 (fun a' M' hE' hs' => by
    rw [← h2, ← h3] at hs'
    refine vcSeq_ok (im := im) hT _ ?_ hs' (fun E2 H2 a2 M2 k1 k2 k3 => ⟨E2, H2, M2, k1, rfl, (hE'.trans k2).toK lb, k3⟩) hk
    unfold dstB at hd ⊢
    rw [List.all_eq_true] at hd ⊢
    exact fun o ho => hd o (List.mem_of_mem_drop ho)) l.toArray.size (Array.replicate l.toArray.size false) a M1 (Nat.le_trans List.countP_le_length (by simp)) (by simp) (fun k o _ hk => absurd hk (hno k)) (fun k _ => hno k) hE1
    ⟨hs1.sim.congr (fun b => by
        unfold lookD
        by_cases hb : b < H.length
        · rw [if_pos hb]
        · rw [if_neg hb, if_neg (hmd b)]
          exact Classical.byContradiction fun hne => hb (blkH_lt fun e => hne (by rw [e]))) (fun b => ⟨fun h => h.elim (fun h => h) fun h => absurd h (hmd b), .inl⟩),
     fun k o s d _ _ hk => absurd hk (hno k), fun d t ht _ => hs1.tm d t ht, hs1.sz, hs1.df, hs1.ge⟩
  exact this
end
end
section
open Go.RowKit
mutual
def wk : T → T → Prop
  | .v x, t => t = .v x ∨ (x = .slice none 0 0 ∧ (t = .islc [] 0 none ∨ t = .islc [] 0 (some 0)))
  | .agg a, t => ∃ b, t = .agg b ∧ wkL a b
  | .tup a, t => ∃ b, t = .tup b ∧ wkL a b
  | .clo f a c, t => ∃ b d, t = .clo f b d ∧ wkL a b ∧ wkL c d
  | .ptr b o, t => t = .ptr b o
  | .slc b o n z c, t => t = .slc b o n z c ∨ t = .slc b o n z none
  | .iptr a o, t => ∃ b, t = .iptr b o ∧ wkL a b
  | .islc a n c, t => ∃ b, (t = .islc b n c ∨ t = .islc b n none) ∧ wkL a b
  | .yl b, t => t = .yl b
  | .mp ks a, t => ∃ b, t = .mp ks b ∧ wkL a b
  | .om b, t => t = .om b
def wkL : List T → List T → Prop
  | [], l => l = []
  | t :: ts, l => ∃ u us, l = u :: us ∧ wk t u ∧ wkL ts us
end
mutual
theorem wk_refl : ∀ t : T, wk t t
  | .v _ => .inl rfl
  | .agg a => ⟨a, rfl, wkL_refl a⟩
  | .tup a => ⟨a, rfl, wkL_refl a⟩
  | .clo _ a c => ⟨a, c, rfl, wkL_refl a, wkL_refl c⟩
  | .ptr _ _ => rfl
  | .slc _ _ _ _ _ => .inl rfl
  | .iptr a _ => ⟨a, rfl, wkL_refl a⟩
  | .islc a _ _ => ⟨a, .inl rfl, wkL_refl a⟩
  | .yl _ => rfl
  | .mp _ a => ⟨a, rfl, wkL_refl a⟩
  | .om _ => rfl
theorem wkL_refl : ∀ ts : List T, wkL ts ts
  | [] => rfl
  | t :: ts => ⟨t, ts, rfl, wk_refl t, wkL_refl ts⟩
end
mutual
theorem Rep.wk {M : Mp} : ∀ (t t' : T) (u : Value), wk t t' → Rep M t u → Rep M t' u
  | .v x, t', u, h, r => by
    rcases h with rfl | ⟨rfl, rfl | rfl⟩
    · exact r
    · obtain rfl := r; exact ⟨none, 0, rfl, Nat.le_refl _, Nat.zero_le _, fun q hq => (by cases hq), .inl ⟨rfl, rfl⟩⟩
    · obtain rfl := r; exact ⟨none, 0, rfl, Nat.le_refl _, Nat.zero_le _, fun q hq => (by injection hq), .inl ⟨rfl, rfl⟩⟩
  | .agg a, _, _, ⟨b, h1, h2⟩, ⟨us, k1, k2⟩ => by subst h1; exact ⟨us, k1, RepL.wk a b us h2 k2⟩
  | .tup a, _, _, ⟨b, h1, h2⟩, ⟨us, k1, k2⟩ => by subst h1; exact ⟨us, k1, RepL.wk a b us h2 k2⟩
  | .clo _ a c, _, _, ⟨b, d, h1, h2, h3⟩, ⟨us, ws, k1, k2, k3⟩ => by subst h1; exact ⟨us, ws, k1, RepL.wk a b us h2 k2, RepL.wk c d ws h3 k3⟩
  | .ptr _ _, _, _, h, r => by obtain rfl := h; exact r
  | .slc _ _ _ _ c, _, _, h, r => by
    rcases h with rfl | rfl
    · exact r
    · rcases r with ⟨h1, h2, h3, h4, h5⟩ | ⟨B, O, k, h1, h2, h3, h4, h5, h6⟩
      · exact .inl ⟨h1, h2, h3, fun q hq => (by cases hq), h5⟩
      · exact .inr ⟨B, O, k, h1, h2, h3, h4, fun q hq => (by cases hq), h6⟩
  | .iptr a _, _, _, ⟨b, h1, h2⟩, ⟨B, O, ar, k1, k2, k3⟩ => by subst h1; exact ⟨B, O, ar, k1, k2, RepA.wk a b ar O h2 k3⟩
  | .islc a n c, _, _, ⟨b, h1, h2⟩, ⟨A, k, k1, k2, k3, k4, k5⟩ => by
    have key : ([] = b ∧ n = 0 ∨ ∃ B O ar, A = some ⟨B, O, none⟩ ∧ M.imm B ar ∧ RepA M b ar O) := by
      rcases k5 with ⟨rfl, k6⟩ | ⟨B, O, ar, k6, k7, k8⟩
      · exact .inl ⟨h2.symm, k6⟩
      · exact .inr ⟨B, O, ar, k6, k7, RepA.wk a b ar O h2 k8⟩
    rcases h1 with rfl | rfl
    · exact ⟨A, k, k1, k2, k3, k4, key.imp (fun h => ⟨h.1.symm, h.2⟩) (fun h => h)⟩
    · exact ⟨A, k, k1, k2, k3, fun q hq => (by cases hq), key.imp (fun h => ⟨h.1.symm, h.2⟩) (fun h => h)⟩
  | .yl _, _, _, h, r => by obtain rfl := h; exact r
  | .mp _ a, _, _, ⟨b, h1, h2⟩, ⟨r, es, n, us, k1, k2, k3, k4, k5⟩ => by subst h1; exact ⟨r, es, n, us, k1, k2, k3, k4, RepL.wk a b us h2 k5⟩
  | .om _, _, _, h, r => by obtain rfl := h; exact r
theorem RepL.wk {M : Mp} : ∀ (ts ts' : List T) (us : List Value), wkL ts ts' → RepL M ts us → RepL M ts' us
  | [], _, _, h, r => by obtain rfl := h; exact r
  | t :: ts, _, _, ⟨x, xs, h1, h2, h3⟩, ⟨u, r, k1, k2, k3⟩ => by subst h1; exact ⟨u, r, k1, Rep.wk t x u h2 k2, RepL.wk ts xs r h3 k3⟩
theorem RepA.wk {M : Mp} : ∀ (ts ts' : List T) (a : Array Value) (j : Nat), wkL ts ts' → RepA M ts a j → RepA M ts' a j
  | [], _, _, _, h, r => by obtain rfl := h; exact r
  | t :: ts, _, a, j, ⟨x, xs, h1, h2, h3⟩, ⟨u, k1, k2, k3⟩ => by subst h1; exact ⟨u, k1, Rep.wk t x u h2 k2, RepA.wk ts xs a (j + 1) h3 k3⟩
end
def wkE : Env → Env → Prop
  | [], _ => True
  | (d, t) :: r, E => (∃ s, E.get d = some s ∧ wk s t) ∧ wkE r E
def wkH : Hp → Hp → Prop
  | [], H => H = []
  | .c a :: r, H => ∃ b H', H = .c b :: H' ∧ wkL a b ∧ wkH r H'
  | .o p :: r, H => ∃ H', H = .o p :: H' ∧ wkH r H'
  | .d :: r, H => ∃ H', H = .d :: H' ∧ wkH r H'
theorem wkH_refl : ∀ H : Hp, wkH H H
  | [] => rfl
  | .c a :: r => ⟨a, r, rfl, wkL_refl a, wkH_refl r⟩
  | .o _ :: r => ⟨r, rfl, wkH_refl r⟩
  | .d :: r => ⟨r, rfl, wkH_refl r⟩
theorem wkE_get : ∀ {L E : Env}, wkE L E → ∀ d t, L.get d = some t → ∃ s, E.get d = some s ∧ wk s t
  | [], _, _, d, t, h => by cases h
  | (k, x) :: r, E, ⟨h1, h2⟩, d, t, h => by
    simp only [Env.get] at h
    split at h
    · rename_i hk; subst hk; injection h with h; subst h; exact h1
    · exact wkE_get h2 d t h
theorem wkH_length : ∀ {H H' : Hp}, wkH H H' → H'.length = H.length
  | [], _, h => by obtain rfl := h; rfl
  | .c _ :: r, _, ⟨b, H', h1, _, h2⟩ => by subst h1; simp [wkH_length h2]
  | .o _ :: r, _, ⟨H', h1, h2⟩ => by subst h1; simp [wkH_length h2]
  | .d :: r, _, ⟨H', h1, h2⟩ => by subst h1; simp [wkH_length h2]
def wkB : Blk → Blk → Prop
  | .c a, x => ∃ b, x = .c b ∧ wkL a b
  | y, x => x = y
theorem wkH_blk : ∀ {H H' : Hp}, wkH H H' → ∀ b, wkB (blkH H b) (blkH H' b)
  | [], _, h, b => by obtain rfl := h; rfl
  | .c a :: r, _, ⟨c, H', h1, h2, h3⟩, 0 => by subst h1; exact ⟨c, rfl, h2⟩
  | .c a :: r, _, ⟨c, H', h1, h2, h3⟩, b + 1 => by subst h1; exact wkH_blk h3 b
  | .o p :: r, _, ⟨H', h1, h2⟩, 0 => by subst h1; rfl
  | .o p :: r, _, ⟨H', h1, h2⟩, b + 1 => by subst h1; exact wkH_blk h2 b
  | .d :: r, _, ⟨H', h1, h2⟩, 0 => by subst h1; rfl
  | .d :: r, _, ⟨H', h1, h2⟩, b + 1 => by subst h1; exact wkH_blk h2 b
section
variable {z : Bool} {P : Program} {tab : Tab} {n kb lb : Nat} {E : Env} {H : Hp} {QT : Exit → Env → Hp → Prop} {X0 : Nat → Prop} {a : Act} {M : Mp}
theorem SimH.wk [Dr] {H' : Hp} (h : SimH H X0 M) (hw : wkH H H') : SimH H' X0 M := by
  have hlen := wkH_length hw
  have hnd : ∀ b, blkH H' b ≠ .d ↔ blkH H b ≠ .d := fun b => by
    have := wkH_blk hw b
    cases hx : blkH H b with
    | c a => rw [hx] at this; obtain ⟨c, h1, -⟩ := this; rw [h1]; simp
    | o p => rw [hx] at this; rw [this]
    | d => rw [hx] at this; rw [this]
  refine ⟨fun b cs hl hd => ?_, fun b p hl hd => ?_, fun b b' B O O' h1 h2 => h.inj b b' B O O' ((hnd b).1 h1) ((hnd b').1 h2), fun b hb => h.dom b (by simpa only [hlen] using hb), fun B => ?_, h.bnd, h.glo⟩
  · have hd : b < H.length := by simpa only [hlen] using hd
    have hb := wkH_blk hw b
    rw [hl] at hb
    cases hx : blkH H b with
    | c a =>
      rw [hx] at hb
      obtain ⟨c, h1, h2⟩ := hb
      injection h1 with h1; subst h1
      rcases h.live b a hx hd with ⟨k1, k2⟩ | ⟨B, O, ar, e, fz, k1, k2, k3, k4, k5⟩
      · subst k2; exact .inl ⟨k1, h2⟩
      · exact .inr ⟨B, O, ar, e, fz, k1, k2, k3, RepA.wk _ _ _ _ h2 k4, k5⟩
    | o p => rw [hx] at hb; cases hb
    | d => rw [hx] at hb; cases hb
  · have hd : b < H.length := by simpa only [hlen] using hd
    have hb := wkH_blk hw b
    rw [hl] at hb
    cases hx : blkH H b with
    | c a => rw [hx] at hb; obtain ⟨c, h1, -⟩ := hb; cases h1
    | o q => rw [hx] at hb; injection hb with hb; subst hb; exact h.liveo b _ hx hd
    | d => rw [hx] at hb; cases hb
  · rw [h.own B]
    constructor
    · rintro (k | ⟨b, O, k1, k2⟩)
      · exact .inl k
      · exact .inr ⟨b, O, (hnd b).2 k1, k2⟩
    · rintro (k | ⟨b, O, k1, k2⟩)
      · exact .inl k
      · exact .inr ⟨b, O, (hnd b).1 k1, k2⟩
theorem St.wk [Dr] {L : Env} {H' : Hp} (h : St n kb E H X0 a M) (hl : wkE L E) (hw : wkH H H') : St n kb L H' X0 a M :=
  ⟨fun d t ht => by obtain ⟨s, h1, h2⟩ := wkE_get hl d t ht; obtain ⟨u, h3, h4⟩ := h.tm d s h1; exact ⟨u, h3, Rep.wk _ _ _ h2 h4⟩, h.sz, h.df, h.ge, h.sim.wk hw⟩
theorem VC.wk [Dr] {c : Code} (L : Env) (H' : Hp) (hl : wkE L E) (hw : wkH H H') (h : VC z P n lb c QT L H') : VC z P n lb c QT E H := fun X0 M a r kb hz hs => h X0 M a r kb hz (hs.wk hl hw)
theorem VC.cut [Dr] {x y : Code} (R : Env → Hp → Prop) (hx : VC z P n lb x (ExThen (fun E' H' => ∃ L H'', R L H'' ∧ wkE L E' ∧ wkH H' H'') QT) E H) (hy : ∀ E H, R E H → VC z P n lb y QT E H) : VC z P n lb (.seq x y) QT E H := by
  refine VC.seq (hx.mono fun e E' H' h => ?_)
  cases e with
  | normal => obtain ⟨L, H'', h1, h2, h3⟩ := h; exact VC.wk L H'' h2 h3 (hy L H'' h1)
  | _ => exact h
theorem CallT.arg [Dr] {f : FuncId} {args args' : List T} {H H' : Hp} {Q : T → Hp → Prop} (ha : wkL args args') (hw : wkH H H') (h : CallT P f args' H' Q) : CallT P f args H Q :=
  ⟨h.1, fun X0 M us hS hr => h.2 X0 M us (hS.wk hw) (RepL.wk _ _ _ ha hr)⟩
theorem CallT.res [Dr] {f : FuncId} {args : List T} {H : Hp} {Q : T → Hp → Prop} (h : CallT P f args H fun t H' => ∃ t' H'', wk t t' ∧ wkH H' H'' ∧ Q t' H'') : CallT P f args H Q :=
  ⟨h.1, fun X0 M us hS hr => (h.2 X0 M us hS hr).mono fun e w' ⟨u, t, H', M', h1, h2, ⟨t', H'', k1, k2, k3⟩, h4, h5, h6⟩ => ⟨u, t', H'', M', h1, h2, k3, h4, h5.wk k2, Rep.wk _ _ _ k1 h6⟩⟩
theorem CallP.intro [Dr] {f : FuncId} {args : List T} {r : T} (ha : T.pureL args = true) (hr : r.pure = true) (h : CallT P f args [] (fun t _ => wk t r)) : CallP P f args r :=
  ⟨ha, hr, CallT.res (h.mono fun t H' hw => ⟨r, H', hw, wkH_refl H', rfl⟩)⟩
theorem CallP.arg [Dr] {f : FuncId} {args args' : List T} {r : T} (ha : wkL args args') (hp : T.pureL args = true) (h : CallP P f args' r) : CallP P f args r :=
  ⟨hp, h.2.1, h.2.2.arg ha (wkH_refl [])⟩
end
end
section
open Go.RowKit
theorem Sim.newo [Dr] {blk : Nat → Blk} {D X0 : Nat → Prop} {M : Mp} (h : Sim blk D X0 M) {nx : Nat} (hn : ¬ D nx) {q : OP} {o' : Obj} {w : World} (hw : w.heap = M.w.heap.push o') (ho : w.os = M.w.os) (ht : Tp M.w w) (hu : w.output = M.w.output)
    (hn' : ∀ a e fz, o' ≠ .cells a e fz) (hc : q.p M o') :
    Evo X0 M (newM M nx w) ∧ Sim (fun b => if b = nx then .o q else blk b) (fun b => D b ∨ b = nx) X0 (newM M nx w) := by
  have hnb : M.β nx = none := h.dom nx hn
  have hE : Evo X0 M (newM M nx w) := by
    refine ⟨fun b p hp => ?_, fun B hB hx => ?_, fun B hB _ => ?_, fun B s hs => ?_, ho, ht, hu, ?_⟩
    · show (if b = nx then _ else M.β b) = _
      rw [if_neg (fun e => by subst e; rw [hnb] at hp; cases hp)]; exact hp
    · show ¬ (M.X B ∨ B = M.w.heap.size)
      exact fun hh => hh.elim hx (by omega)
    · show w.heap[B]? = _
      rw [hw, heap_push, if_neg (by omega)]
    · rw [← hs]
      refine shape_block ?_
      show w.heap[B]? = _
      have : B < M.w.heap.size := by
        rcases Nat.lt_or_ge B M.w.heap.size with h1 | h1
        · exact h1
        · simp [World.shape?, Array.getElem?_eq_none h1] at hs
      rw [hw, heap_push, if_neg (by omega)]
    · show _ ≤ w.heap.size
      rw [hw]; simp
  have hnew : (newM M nx w).w.heap[M.w.heap.size]? = some o' := by
    show w.heap[_]? = _
    rw [hw, heap_push, if_pos rfl]
  have hold : ∀ b p, M.β b = some p → b ≠ nx := fun b p hp e => by subst e; rw [hnb] at hp; cases hp
  have hβ : ∀ b, b ≠ nx → (newM M nx w).β b = M.β b := fun b hb => if_neg hb
  refine ⟨hE, fun b cells hb hd => ?_, fun b p hb hd => ?_, fun b b' B O O' h1 h2 h3 h4 => ?_, fun b hb => ?_, fun B => ?_, fun B hB => ?_, Glo.evo hE h.glo⟩
  · by_cases hbn : b = nx
    · subst hbn; simp only [if_true] at hb; cases hb
    · simp only [hbn, if_false] at hb
      have hd' : D b := hd.resolve_right hbn
      rcases h.live b cells hb hd' with ⟨h1, h2⟩ | ⟨B, O, a', e', fz', h1, h2, h3, h4, h5, h6⟩
      · exact .inl ⟨by rw [hβ b hbn]; exact h1, h2⟩
      · refine .inr ⟨B, O, a', e', fz', by rw [hβ b hbn]; exact h1, ?_, h3, RepA.stays hE.stays _ _ _ h4, h5, h6⟩
        show w.heap[B]? = _
        rw [hw, heap_push, if_neg (by have := heap_lt h2; omega)]; exact h2
  · by_cases hbn : b = nx
    · subst hbn
      simp only [if_true] at hb
      injection hb with hb; subst hb
      refine ⟨M.w.heap.size, o', by show (if _ then _ else _) = _; rw [if_pos rfl], hnew, hn', q.st hE.stays hc, fun hx => ?_⟩
      have := h.bnd _ ((h.own _).2 (.inl hx)); omega
    · simp only [hbn, if_false] at hb
      obtain ⟨B, o, h1, h2, h3, h4, h5⟩ := h.liveo b p hb (hd.resolve_right hbn)
      refine ⟨B, o, by rw [hβ b hbn]; exact h1, ?_, h3, p.st hE.stays h4, h5⟩
      show w.heap[B]? = _
      rw [hw, heap_push, if_neg (by have := heap_lt h2; omega)]; exact h2
  · have hlt : ∀ c p q, c ≠ nx → blk c ≠ .d → M.β c = some (some (p, q)) → p < M.w.heap.size := fun c p q _ hl hc => h.bnd p ((h.own p).2 (.inr ⟨c, q, hl, hc⟩))
    by_cases hb : b = nx <;> by_cases hb' : b' = nx
    · rw [hb, hb']
    · subst hb
      simp only [hb', if_false] at h2
      rw [hβ b' hb'] at h4
      have h3 : (if b = b then some (some (M.w.heap.size, 0)) else M.β b) = some (some (B, O)) := h3
      rw [if_pos rfl] at h3
      injection h3 with h3; injection h3 with h3; injection h3 with e1 e2
      have := hlt b' B O' hb' h2 h4; omega
    · subst hb'
      simp only [hb, if_false] at h1
      rw [hβ b hb] at h3
      have h4 : (if b' = b' then some (some (M.w.heap.size, 0)) else M.β b') = some (some (B, O')) := h4
      rw [if_pos rfl] at h4
      injection h4 with h4; injection h4 with h4; injection h4 with e1 e2
      have := hlt b B O hb h1 h3; omega
    · simp only [hb, hb', if_false] at h1 h2
      rw [hβ b hb] at h3; rw [hβ b' hb'] at h4
      exact h.inj b b' B O O' h1 h2 h3 h4
  · have hb' : b ≠ nx := fun e => hb (.inr e)
    rw [hβ b hb']
    exact h.dom b fun hd => hb (.inl hd)
  · show (M.X B ∨ B = M.w.heap.size) ↔ _
    constructor
    · rintro (hx | rfl)
      · rcases (h.own B).1 hx with h1 | ⟨b, O, h1, h2⟩
        · exact .inl h1
        · have hbn := hold b _ h2
          exact .inr ⟨b, O, by simp only [hbn, if_false]; exact h1, by rw [hβ b hbn]; exact h2⟩
      · exact .inr ⟨nx, 0, by simp, by show (if _ then _ else _) = _; rw [if_pos rfl]⟩
    · rintro (h1 | ⟨b, O, h1, h2⟩)
      · exact .inl ((h.own B).2 (.inl h1))
      · by_cases hbn : b = nx
        · subst hbn
          have h2 : (if b = b then some (some (M.w.heap.size, 0)) else M.β b) = some (some (B, O)) := h2
          rw [if_pos rfl] at h2
          injection h2 with h2; injection h2 with h2; injection h2 with e1 e2
          exact .inr e1.symm
        · simp only [hbn, if_false] at h1
          rw [hβ b hbn] at h2
          exact .inl ((h.own B).2 (.inr ⟨b, O, h1, h2⟩))
  · have hB : M.X B ∨ B = M.w.heap.size := hB
    show B < w.heap.size
    rw [hw, Array.size_push]
    rcases hB with hB | hB
    · have := h.bnd B hB; omega
    · omega
def _root_.Go.Loop.at (L : Loop) (s : LoopState) (j : Option Code) : Loop := { L with state := s, pending := j }
def recP (n : Nat) (L : Loop) (E : Env) : OP :=
  ⟨fun M o => o = .loop L ∧ L.tmps.size = n ∧ ∀ d t, E.get d = some t → ∃ u, L.tmps[d]? = some u ∧ Rep M t u,
   fun h ⟨h1, h2, h3⟩ => ⟨h1, h2, fun d t ht => by obtain ⟨u, k1, k2⟩ := h3 d t ht; exact ⟨u, k1, Rep.stays h _ _ k2⟩⟩, false, fun h => by cases h⟩
section
variable {z : Bool} {P : Program} {tab : Tab} {n kb lb : Nat} {E : Env} {H : Hp} {QT : Exit → Env → Hp → Prop} {X0 : Nat → Prop} {a : Act} {M : Mp}
theorem St.evo [Dr] {M' : Mp} {H' : Hp} (h : St n kb E H X0 a M) (hE : Evo X0 M M') (hS : SimH H' X0 M') : St n kb E H' X0 a M' :=
  ⟨fun d t ht => by obtain ⟨u, h1, h2⟩ := h.tm d t ht; exact ⟨u, h1, Rep.stays hE.stays _ _ h2⟩, h.sz, h.df.evo hE, Nat.le_trans h.ge hE.size, hS⟩
theorem Sim.setr [Dr] {b B O : Nat} {L L' : Loop} {E : Env} (h : SimH H X0 M) (hc : blkH H b = .o (recP n L E)) (hB : M.β b = some (some (B, O))) (hs : L'.tmps = L.tmps) :
    O = 0 ∧ M.w.heap[B]? = some (.loop L) ∧ Evo X0 M (atW M (M.w.putObj B (.loop L'))) ∧ SimH (setH H b (.o (recP n L' E))) X0 (atW M (M.w.putObj B (.loop L'))) := by
  have hb : b < H.length := blkH_lt (by rw [hc]; simp)
  obtain ⟨B', o, k1, k2, k3, ⟨k4, k5, k6⟩, k7⟩ := h.liveo b _ hc hb
  rw [hB] at k1; injection k1 with k1; injection k1 with k1; injection k1 with e1 e2; subst e1 e2 k4
  obtain ⟨g1, g2⟩ := Sim.writeo (o' := .loop L') (p' := recP n L' E) h hB hc k7 k2 k3 rfl (by simp) ⟨rfl, by rw [hs]; exact k5, fun d t ht => by rw [hs]; exact k6 d t ht⟩
  exact ⟨rfl, k2, g1, SimH.set hb g2⟩
def putPs : List Nat → List T → Env → Env
  | p :: ps, t :: ts, E => putPs ps ts (E.put (some p) t)
  | _, _, E => E
theorem params_ok : ∀ (ps : List Nat) (ts : List T) (us : List Value) (E : Env) (tmps : Array Value), RepL M ts us → (∀ p ∈ ps, p < n) → tmps.size = n → (∀ d t, E.get d = some t → ∃ u, tmps[d]? = some u ∧ Rep M t u) →
    ((ps.zip us).foldl (fun tmps x => tmps.setIfInBounds x.1 x.2) tmps).size = n ∧ ∀ d t, (putPs ps ts E).get d = some t → ∃ u, ((ps.zip us).foldl (fun tmps x => tmps.setIfInBounds x.1 x.2) tmps)[d]? = some u ∧ Rep M t u
  | [], _, _, _, _, _, _, h, k => by simpa [putPs] using ⟨h, k⟩
  | _ :: _, [], us, _, _, hr, _, h, k => by obtain rfl := hr; simpa [putPs] using ⟨h, k⟩
  | p :: ps, t :: ts, _, E, tmps, ⟨u, us, h1, h2, h3⟩, hp, h, k => by
    subst h1
    simp only [List.zip_cons_cons, List.foldl_cons, putPs]
    refine params_ok ps ts us _ _ h3 (fun q hq => hp q (List.mem_cons_of_mem _ hq)) (by simpa using h) fun d s hd => ?_
    rw [get_put] at hd
    split at hd
    · rename_i hk; subst hk
      injection hd with hd; subst hd
      exact ⟨u, by rw [Array.getElem?_setIfInBounds_self_of_lt (by rw [h]; exact hp _ List.mem_cons_self)], h2⟩
    · rename_i hk
      obtain ⟨v, g1, g2⟩ := k d s hd
      exact ⟨v, by rw [Array.getElem?_setIfInBounds_ne (by first | exact hk | exact fun e => hk e.symm | exact fun e => hk (by rw [e]))]; exact g1, g2⟩
def roundQ (n b : Nat) (L : Loop) (E0 : Env) (Q : T → Hp → Prop) : Exit → Env → Hp → Prop
  | .normal, _, H => blkH H b = .o (recP n (L.at .busy none) E0) ∧ Q (.v (.bool true)) (setH H b (.o (recP n (L.at .ready none) E0)))
  | .ret, _, H => blkH H b = .o (recP n (L.at .busy none) E0) ∧ Q (.v (.bool false)) (setH H b (.o (recP n (L.at .done (some .ret)) E0)))
  | .exit id, _, H => blkH H b = .o (recP n (L.at .busy none) E0) ∧ Q (.v (.bool false)) (setH H b (.o (recP n (L.at .done (some (.exit id))) E0)))
  | _, _, _ => False
theorem YieldT.intro [Dr] {L : Loop} {b : Nat} {args : List T} {Q : T → Hp → Prop} (hc : blkH H b = .o (recP n (L.at .ready none) E)) (hps : ∀ p ∈ L.params.toList, p < n) (hlen : args.length = L.params.size)
    (h : VC false P n H.length L.assign (ExThen (fun E1 H1 => blkH H1 b = .o (recP n (L.at .ready none) E) ∧ VC false P n H.length L.body (roundQ n b L E Q) E1 (setH H1 b (.o (recP n (L.at .busy none) E)))) (fun _ _ _ => False)) (putPs L.params.toList args E) H) : YieldT P b args H Q := by
  intro X0 M B O us hS hB hr
  have hb : b < H.length := blkH_lt (by rw [hc]; simp)
  obtain ⟨B', o, k1, k2, k3, ⟨k4, k5, k6⟩, k7⟩ := hS.liveo b _ hc hb
  rw [hB] at k1; injection k1 with k1; injection k1 with k1; injection k1 with e1 e2; subst e1 e2 k4
  obtain ⟨p1, p2⟩ := params_ok L.params.toList args us E L.tmps hr hps k5 k6
  have hul := hr.length
  refine ⟨L.fn, _, L.assign, L.body, run_yield (r := L.at .ready none) k2 (by show us.toArray.size = L.params.size; simp; omega), fun r => roundIn_of_wpIn trivial ?_⟩
  have hfold : ((L.at .ready none).params.zip us.toArray).foldl (fun tmps x => tmps.setIfInBounds x.1 x.2) (L.at .ready none).tmps = (L.params.toList.zip us).foldl (fun tmps x => tmps.setIfInBounds x.1 x.2) L.tmps := by
    rw [← Array.foldl_toList, Array.toList_zip]; rfl
  have hs : St n M.w.heap.size (putPs L.params.toList args E) H X0 { tmps := ((L.at .ready none).params.zip us.toArray).foldl (fun tmps x => tmps.setIfInBounds x.1 x.2) (L.at .ready none).tmps, defers := [] } M := by
    rw [hfold]; exact ⟨p2, p1, trivial, Nat.le_refl _, hS⟩
  refine wpIn_mono (h X0 M _ (some B) _ (by simp) hs) ?_
  rintro e a1 w1 ⟨E1, H1, M1, q1, rfl, q3, q4⟩
  cases e with
  | normal =>
    obtain ⟨q5, q6⟩ := q1
    have hB1 := q3.at_ _ _ hb hB
    obtain ⟨-, g1, g2, g3⟩ := Sim.setr (L' := L.at .busy none) q4.sim q5 hB1 rfl
    refine ⟨_, run_beginRound g1 rfl, ?_⟩
    refine wpIn_mono (q6 X0 _ a1 (some B) _ (by simp) (q4.evo g2 g3)) ?_
    rintro e a2 w2 ⟨E2, H2, M2, j1, rfl, j3, j4⟩
    have hB2 := j3.at_ _ _ hb (g2.at_ _ _ hB1)
    cases e with
    | normal =>
      obtain ⟨j5, j6⟩ := j1
      obtain ⟨-, g4, g5, g6⟩ := Sim.setr (L' := L.at .ready none) j4.sim j5 hB2 rfl
      exact ⟨_, _, run_endRound none g4, .bool true, .v (.bool true), _, _, rfl, rfl, j6, (q3.trans ((g2.toK _).trans (j3.trans (g5.toK _)))).evo fun b hb => hS.dom b hb, g6, rfl⟩
    | ret =>
      obtain ⟨j5, j6⟩ := j1
      obtain ⟨-, g4, g5, g6⟩ := Sim.setr (L' := L.at .done (some .ret)) j4.sim j5 hB2 rfl
      exact ⟨_, _, run_endRound (some .ret) g4, .bool false, .v (.bool false), _, _, rfl, rfl, j6, (q3.trans ((g2.toK _).trans (j3.trans (g5.toK _)))).evo fun b hb => hS.dom b hb, g6, rfl⟩
    | exit id =>
      obtain ⟨j5, j6⟩ := j1
      obtain ⟨-, g4, g5, g6⟩ := Sim.setr (L' := L.at .done (some (.exit id))) j4.sim j5 hB2 rfl
      exact ⟨_, _, run_endRound (some (.exit id)) g4, .bool false, .v (.bool false), _, _, rfl, rfl, j6, (q3.trans ((g2.toK _).trans (j3.trans (g5.toK _)))).evo fun b hb => hS.dom b hb, g6, rfl⟩
    | _ => exact j1.elim
  | _ => exact q1.elim
def rangeQ (n b : Nat) (L : Loop) (E : Env) (QT : Exit → Env → Hp → Prop) (H : Hp) : Prop :=
  (blkH H b = .o (recP n (L.at .ready none) E) ∧ QT .normal E (setH H b .d)) ∨ (blkH H b = .o (recP n (L.at .done (some .ret)) E) ∧ QT .ret E (setH H b .d)) ∨ ∃ id, blkH H b = .o (recP n (L.at .done (some (.exit id))) E) ∧ QT (.exit id) E (setH H b .d)
theorem Marks.lt : ∀ {ds : List Deferred}, Marks kb ds M → ∀ d ∈ ds, ∃ r, d = { target := .collected r, args := #[] } ∧ r < M.w.heap.size
  | _ :: _, ⟨⟨r, h1, h0, h2, h3, h4⟩, k⟩, d, hd => by
    rcases List.mem_cons.1 hd with rfl | hd
    · exact ⟨r, h1, heap_lt h3⟩
    · exact Marks.lt k d hd
theorem Sim.endr [Dr] {b : Nat} {x : Blk} (hb : b < H.length) (hx : x ≠ .d) (h : SimH (setH H b x) X0 M) : Evo X0 M (killM M b) ∧ SimH (setH H b .d) X0 (killM M b) := by
  obtain ⟨h1, h2⟩ := Sim.kill h (b := b) (by rw [blkH_set _ _ _ _ hb, if_pos rfl]; exact hx) (by rw [setH_length]; exact hb)
  refine ⟨h1, h2.congr (fun c => ?_) (fun c => by simp [setH_length])⟩
  rw [blkH_set _ _ _ _ hb]
  unfold updL
  split
  · rfl
  · rename_i hc; rw [blkH_set _ _ _ _ hb, if_neg hc]
theorem VC.range [Dr] {g : Operand} {ps : Array Tmp} {assign body : Code} {f : FuncId} {fs cs : List T} (hg : E.opd g = some (.clo f fs cs))
    (h : ∀ L : Loop, L.params = ps → L.assign = assign → L.body = body → CallT P f (fs ++ [.yl H.length] ++ cs) (H ++ [.o (recP n (L.at .ready none) E)]) (fun _ H' => rangeQ n H.length L E QT H')) : VC true P n lb (.rangeFunc g ps assign body) QT E H := by
  intro X0 M a r kb hz hs
  obtain rfl := hz rfl
  refine wpIn_rangeFunc fun fn hfn => ?_
  obtain ⟨us, ws, e1, r1, r2⟩ := rep_opd hs _ _ hg
  let L : Loop := { state := .ready, pending := none, fn, tmps := a.tmps, params := ps, assign, body, defers := M.w.heap.size }
  let M1 : Mp := ⟨M.β, M.X, M.w.alloc (.deferred (some []))⟩
  have hE1 : Evo X0 M M1 := ⟨fun _ _ h => h, fun _ _ h => h, fun B hB _ => by show (M.w.heap.push _)[B]? = _; rw [heap_push, if_neg (by omega)], fun B s hB => by
    rw [← hB]; refine shape_block ?_
    have : B < M.w.heap.size := by
      rcases Nat.lt_or_ge B M.w.heap.size with h1 | h1
      · exact h1
      · simp [World.shape?, Array.getElem?_eq_none h1] at hB
    show (M.w.heap.push _)[B]? = _; rw [heap_push, if_neg (by omega)], rfl, ⟨rfl, fun _ => Nat.le_refl _⟩, rfl, by show _ ≤ (M.w.heap.push _).size; simp⟩
  have hS1 : SimH H X0 M1 := hs.sim.world hE1 fun B hB => by show (M.w.heap.push _)[B]? = _; rw [heap_push, if_neg (by omega)]
  have hz1 : M1.w.heap.size = M.w.heap.size + 1 := by show (M.w.heap.push _).size = _; simp
  obtain ⟨hE2, S2⟩ := Sim.newo hS1 (nx := H.length) (fun hh => Nat.lt_irrefl _ hh) (q := recP n (L.at .ready none) E) (o' := .loop L) (w := M1.w.alloc (.loop L)) rfl rfl ⟨rfl, fun _ => Nat.le_refl _⟩ rfl (by simp)
    ⟨rfl, hs.sz, fun d t ht => by obtain ⟨u, k1, k2⟩ := hs.tm d t ht; exact ⟨u, k1, Rep.stays hE1.stays _ _ k2⟩⟩
  have hS2 : SimH (H ++ [.o (recP n (L.at .ready none) E)]) X0 (newM M1 H.length (M1.w.alloc (.loop L))) := SimH.push S2
  have hE := hE1.trans hE2
  have hβ : (newM M1 H.length (M1.w.alloc (.loop L))).β H.length = some (some (M.w.heap.size + 1, 0)) := by show (if _ then _ else _) = _; rw [if_pos rfl, hz1]
  have hm : Marks kb ({ target := .collected M.w.heap.size, args := #[] } :: a.defers) (newM M1 H.length (M1.w.alloc (.loop L))) := by
    refine ⟨⟨M.w.heap.size, rfl, hs.ge, ?_, ?_, fun d hd e => ?_⟩, hs.df.evo hE⟩
    · show ¬ (M.X _ ∨ _ = M1.w.heap.size)
      rintro (hx | hx)
      · exact Nat.lt_irrefl _ (hs.sim.bnd _ hx)
      · omega
    · show (M1.w.heap.push _)[_]? = _
      rw [heap_push, if_neg (by omega)]
      exact World.alloc_heap_new _ _
    · obtain ⟨r, h1, h2⟩ := hs.df.lt d hd
      rw [h1] at e
      injection e with e
      injection e with e
      omega
  have hcall := h L rfl rfl rfl
  have henter : (Instr.enterLoop fn a.tmps ps assign body (FW none).round).run P M.w = .ok (M.w.heap.size + 1, [{ target := .collected M.w.heap.size, args := #[] }]) (newM M1 H.length (M1.w.alloc (.loop L))).w := run_enterLoop_outer _ _ _ _ _
  generalize hM2 : newM M1 H.length (M1.w.alloc (.loop L)) = M2 at *
  clear_value M1 L
  have hcl := hcall.2 X0 M2 _ hS2 (RepL.append (RepL.append (RepL.stays hE.stays _ _ r1) ⟨_, [], rfl, ⟨_, _, hβ, rfl⟩, rfl⟩) (RepL.stays hE.stays _ _ r2))
  refine ⟨M.w.heap.size + 1, [{ target := .collected M.w.heap.size, args := #[] }], M2.w, ({ target := .fn (.func f) ws.toArray, args := us.toArray ++ #[Value.func (.yield (M.w.heap.size + 1)) #[] #[]] } : Deferred), M2.w, f, (us ++ [Value.func (.yield (M.w.heap.size + 1)) #[] #[]] ++ ws).toArray, M2.w, ?_, ?_, ?_, ?_, ?_, ?_⟩
  · exact henter
  · simp only [resolve, Sem.run_bind, e1, Deferred.ofValue, Sem.run_pure, Result.andThen_ok]
    simp [Act.eval]
  · exact fun _ _ => trivial
  · simp only [invoke]
    rw [run_goFunc _ _ _ hcall.1]
    simp
  · exact fun hh => (by cases hh)
  refine callsIn_wide.2 (hcl.mono ?_)
  rintro e w' ⟨u, t, H', M', rfl, rfl, k1, k2, k3, k4⟩
  have hB := k2.at_ _ _ hβ
  have fin : ∀ (s : LoopState) (j : Option Code), blkH H' H.length = .o (recP n (L.at s j) E) → s ≠ .busy → ∃ M4 : Mp, (Instr.endLoop (M.w.heap.size + 1)).run P M'.w = .ok j M4.w ∧ Evo X0 M M4 ∧ St n kb E (setH H' H.length .d) X0 { a with defers := [{ target := .collected M.w.heap.size, args := #[] }] ++ a.defers } M4 := by
    intro s j hb hne
    have hlt : H.length < H'.length := blkH_lt (by rw [hb]; simp)
    obtain ⟨-, g1, g2, g3⟩ := Sim.setr (L' := L.at .exhausted j) k3 hb hB rfl
    obtain ⟨g4, g5⟩ := Sim.endr hlt (by simp) g3
    have hEv := (hE.trans k2).trans (g2.trans g4)
    refine ⟨_, run_endLoop g1 hne, hEv, fun d t ht => ?_, hs.sz, hm.evo (k2.trans (g2.trans g4)), Nat.le_trans hs.ge hEv.size, g5⟩
    obtain ⟨u, q1, q2⟩ := hs.tm d t ht
    exact ⟨u, q1, Rep.stays hEv.stays _ _ q2⟩
  rcases k1 with ⟨b1, q⟩ | ⟨b1, q⟩ | ⟨id, b1, q⟩
  · obtain ⟨M4, f1, f2, f3⟩ := fin _ _ b1 (by simp)
    exact ⟨none, M4.w, f1, E, _, M4, q, rfl, f2.toK lb, f3⟩
  · obtain ⟨M4, f1, f2, f3⟩ := fin _ _ b1 (by simp)
    exact ⟨some .ret, M4.w, f1, wpIn_ret ⟨E, _, M4, q, rfl, f2.toK lb, f3⟩⟩
  · obtain ⟨M4, f1, f2, f3⟩ := fin _ _ b1 (by simp)
    exact ⟨some (.exit id), M4.w, f1, wpIn_exit ⟨E, _, M4, q, rfl, f2.toK lb, f3⟩⟩
end
end
section
open Go.RowKit
def Sub (E E' : Env) : Prop := ∀ d t, E.get d = some t → E'.get d = some t
theorem Sub.refl (E : Env) : Sub E E := fun _ _ h => h
theorem Sub.opd {E E' : Env} (h : Sub E E') {x : Operand} {t : T} (hx : E.opd x = some t) : E'.opd x = some t := by
  cases x with
  | tmp d => exact h d t hx
  | _ => exact hx
def putC (E : Env) : Option Nat → T → Env
  | none, _ => E
  | some d, t => (d, t) :: E
theorem Sub.put {E E' : Env} (h : Sub E E') (d : Option Nat) (t : T) : Sub (putC E d t) (E'.put d t) := by
  cases d with
  | none => exact h
  | some d =>
    intro k s hk
    rw [get_put]
    have hk : (if d = k then some t else E.get k) = some s := hk
    by_cases e : k = d
    · rw [if_pos e]; rw [if_pos e.symm] at hk; exact hk
    · rw [if_neg e]; rw [if_neg (fun h => e h.symm)] at hk; exact h k s hk
def SubF (ρ ρ' : EnvF) : Prop := ∀ x t, ρ x = some t → ρ' x = some t
theorem optL_mono {ρ ρ' : EnvF} (h : SubF ρ ρ') : ∀ (xs : List Operand) (ts : List T), optL ρ xs = some ts → optL ρ' xs = some ts
  | [], ts, hx => hx
  | x :: xs, ts, hx => by
    simp only [optL] at hx ⊢
    cases h1 : ρ x with
    | none => simp only [h1] at hx; cases hx
    | some t =>
      cases h2 : optL ρ xs with
      | none => simp only [h1, h2] at hx; cases hx
      | some ts' => simp only [h1, h2] at hx; simp only [h _ _ h1, optL_mono h xs _ h2]; exact hx
theorem optP_mono {ρ ρ' : EnvF} (h : SubF ρ ρ') : ∀ (xs : List (Nat × Operand)) (ts : List (Nat × T)), optP ρ xs = some ts → optP ρ' xs = some ts
  | [], ts, hx => hx
  | (i, x) :: xs, ts, hx => by
    simp only [optP] at hx ⊢
    cases h1 : ρ x with
    | none => simp only [h1] at hx; cases hx
    | some t =>
      cases h2 : optP ρ xs with
      | none => simp only [h1, h2] at hx; cases hx
      | some ts' => simp only [h1, h2] at hx; simp only [h _ _ h1, optP_mono h xs _ h2]; exact hx
theorem optI_mono {ρ ρ' : EnvF} (h : SubF ρ ρ') : ∀ (x : Option Operand) (l : Option Int), optI x ρ = some l → optI x ρ' = some l
  | none, l, hx => hx
  | some x, l, hx => by
    simp only [optI] at hx ⊢
    cases h1 : ρ x with
    | none => simp only [h1] at hx; cases hx
    | some t => simp only [h1] at hx; simp only [h _ _ h1]; exact hx
theorem opM_mono {tab : Tab} {look : Look} {nx : Nat} {ρ ρ' : EnvF} (hs : SubF ρ ρ') {op : Op} {r : T × Option (Nat × List T)} (h : opM tab look nx ρ op = some r) : opM tab look nx ρ' op = some r := by
  have one : ∀ {β : Type} (x : Operand) (F : T → Option β) (r : β), (match ρ x with | some t => F t | none => none) = some r → (match ρ' x with | some t => F t | none => none) = some r := by
    intro β x F r hh
    cases h1 : ρ x with
    | none => simp only [h1] at hh; cases hh
    | some t => simp only [h1] at hh; simp only [hs _ _ h1]; exact hh
  have two : ∀ {β : Type} (x y : Operand) (F : T → T → Option β) (r : β), (match ρ x, ρ y with | some a, some b => F a b | _, _ => none) = some r → (match ρ' x, ρ' y with | some a, some b => F a b | _, _ => none) = some r := by
    intro β x y F r hh
    cases h1 : ρ x with
    | none => simp only [h1] at hh; cases hh
    | some t =>
      cases h2 : ρ y with
      | none => simp only [h1, h2] at hh; cases hh
      | some u => simp only [h1, h2] at hh; simp only [hs _ _ h1, hs _ _ h2]; exact hh
  cases op with
  | move x => exact one x _ _ h
  | assign x => exact one x _ _ h
  | pick c a b =>
    simp only [opM] at h ⊢
    cases h1 : ρ c with
    | none => simp [h1] at h
    | some tc =>
      simp only [h1, hs _ _ h1] at h ⊢
      cases tc <;> first | (simp at h; done) | skip
      rename_i x
      cases x <;> first | (simp at h; done) | skip
      rename_i q
      cases q
      · cases h3 : ρ b with
        | none => rw [h3] at h; cases h2 : ρ a <;> rw [h2] at h <;> simp at h
        | some tb =>
          have e : r = (tb, none) := by
            rw [h3] at h
            split at h <;> simp_all
          subst e
          rw [hs _ _ h3]
          split <;> simp_all
      · cases h2 : ρ a with
        | none => rw [h2] at h; cases h3 : ρ b <;> rw [h3] at h <;> simp at h
        | some ta =>
          have e : r = (ta, none) := by
            rw [h2] at h
            split at h <;> simp_all
          subst e
          rw [hs _ _ h2]
          split <;> simp_all
  | alloc e => exact h
  | box e x => exact one x _ _ h
  | build t ps =>
    simp only [opM] at h ⊢
    cases h1 : optP ρ ps.toList with
    | none => simp [h1] at h
    | some l => simp only [h1, optP_mono hs _ _ h1] at h ⊢; exact h
  | buildSlice t n ps =>
    simp only [opM] at h ⊢
    cases h1 : optP ρ ps.toList with
    | none => simp [h1] at h
    | some l => simp only [h1, optP_mono hs _ _ h1] at h ⊢; exact h
  | load t a => exact one a _ _ h
  | nilCheck x =>
    simp only [opM] at h ⊢
    cases h1 : ρ x with
    | none => simp [h1] at h
    | some t => simp only [h1, hs _ _ h1] at h ⊢; exact h
  | binOp op t x y yt => exact two x y _ _ h
  | unOp op t x => exact one x _ _ h
  | convert s d x => exact one x _ _ h
  | makeFunc f fs cs =>
    cases f with
    | func f =>
      simp only [opM] at h ⊢
      cases h1 : optL ρ fs.toList with
      | none => simp [h1] at h
      | some a =>
        cases h2 : optL ρ cs.toList with
        | none => simp [h1, h2] at h
        | some b => simp only [h1, h2, optL_mono hs _ _ h1, optL_mono hs _ _ h2] at h ⊢; exact h
    | _ => simp [opM] at h
  | makeSlice t l c => exact two l c _ _ h
  | slice t x lo hi mx =>
    simp only [opM] at h ⊢
    cases h1 : ρ x with
    | none => simp [h1] at h
    | some a =>
      cases h2 : optI lo ρ with
      | none => simp [h1, h2] at h
      | some l =>
        cases h3 : optI hi ρ with
        | none => simp [h1, h2, h3] at h
        | some hh =>
          cases h4 : optI mx ρ with
          | none => simp [h1, h2, h3, h4] at h
          | some m => simp only [h1, h2, h3, h4, hs _ _ h1, optI_mono hs _ _ h2, optI_mono hs _ _ h3, optI_mono hs _ _ h4] at h ⊢; exact h
  | fieldAddr s x f => exact one x _ _ h
  | field s x f => exact one x _ _ h
  | indexAddr t x i => exact two x i _ _ h
  | index t x i => exact two x i _ _ h
  | lookup t x i ok => exact two x i _ _ h
  | extract x i =>
    simp only [opM] at h ⊢
    cases h1 : ρ x with
    | none => simp [h1] at h
    | some t => simp only [h1, hs _ _ h1] at h ⊢; exact h
  | call c =>
    obtain ⟨cal, args, ats⟩ := c
    cases cal with
    | builtin b =>
      cases b <;> first | (simp [opM] at h; done) | skip
      · simp only [opM] at h ⊢
        split at h
        · exact one _ _ _ h
        · cases h
      · simp only [opM] at h ⊢
        cases h1 : optL ρ args.toList with
        | none => simp [h1] at h
        | some l => simp only [h1, optL_mono hs _ _ h1] at h ⊢; exact h
      · simp only [opM] at h ⊢
        cases h1 : optL ρ args.toList with
        | none => simp [h1] at h
        | some l => simp only [h1, optL_mono hs _ _ h1] at h ⊢; exact h
    | _ => simp [opM] at h
  | _ => simp [opM] at h
def VX [Dr] (q : Bool) (P : Program) (tab : Tab) (im : List Nat) (ds : List (Option Nat)) (l : List Oper) (E : Env) (H : Hp) (K : Env → Hp → Prop) : Prop :=
  ∀ E2, Sub E E2 → match q with
    | true => vcDraw P tab im ds l E2 H (fun E' H' => ∃ E1, Sub E1 E' ∧ K E1 H')
    | false => vcSeq P tab im ds l E2 H (fun E' H' => ∃ E1, Sub E1 E' ∧ K E1 H')
section
variable {q : Bool} {P : Program} {tab : Tab} {im : List Nat} {ds : List (Option Nat)} {l : List Oper} {E : Env} {H : Hp} {K : Env → Hp → Prop}
theorem VX.nil [Dr] (h : K E H) : VX q P tab im ds [] E H K := fun E2 he => by
  cases q
  · exact ⟨E, he, h⟩
  · exact ⟨E, he, h⟩
theorem vcOp_meek [Dr] {o : Oper} {K : Env → Hp → Prop} {t : T} {nb : Option (Nat × List T)} (h : opM tab (lookH H) H.length E.opd o.op = some (t, nb)) (hk : match nb with | none => K (E.put o.dst t) H | some (_, cs) => if imB im o.dst = true then K (E.put o.dst (immT t cs)) H else K (E.put o.dst t) (H ++ [.c cs])) : vcOp P tab im o E H K := by
  unfold vcOp
  split
  · rename_i ho; rw [ho] at h; simp [opM] at h
  · rename_i ho; rw [ho] at h; simp [opM] at h
  · rename_i ho; rw [ho] at h; simp [opM] at h
  · rename_i ho; rw [ho] at h; simp [opM] at h
  · rename_i ho; rw [ho] at h; simp [opM] at h
  · rw [h]
    cases nb with
    | none => exact hk
    | some p => exact hk
theorem vcOpM_meek [Dr] {o : Oper} {K : Env → Hp → Prop} {t : T} {nb : Option (Nat × List T)} (h : opM tab (lookH H) H.length E.opd o.op = some (t, nb)) (hk : match nb with | none => K (E.put o.dst t) H | some (_, cs) => if imB im o.dst = true then K (E.put o.dst (immT t cs)) H else K (E.put o.dst t) (H ++ [.c cs])) : vcOpM P tab im o E H K := by
  unfold vcOpM
  split
  · rename_i ho; rw [ho] at h; simp [opM] at h
  · rw [h]
    cases nb with
    | none => exact hk
    | some p => exact hk
theorem VX.meek' [Dr] {o : Oper} {t : T} {nb : Option (Nat × List T)} (hg : o.guard = none) (h : opM tab (lookH H) H.length E.opd o.op = some (t, nb)) (k : match nb with | none => VX q P tab im ds l (putC E o.dst t) H K | some (_, cs) => if imB im o.dst = true then VX q P tab im ds l (putC E o.dst (immT t cs)) H K else VX q P tab im ds l (putC E o.dst t) (H ++ [.c cs]) K) : VX q P tab im ds (o :: l) E H K := by
  intro E2 he
  have h' : opM tab (lookH H) H.length E2.opd o.op = some (t, nb) := opM_mono (fun x t h => he.opd h) h
  cases q
  · show vcGuard ds E2 o _ _
    unfold vcGuard
    rw [hg]
    refine vcOp_meek h' ?_
    cases nb with
    | none => exact k _ (he.put _ _)
    | some p =>
      obtain ⟨e, cs⟩ := p
      simp only at k ⊢
      split
      · rename_i hi; rw [if_pos hi] at k; exact k _ (he.put _ _)
      · rename_i hi; rw [if_neg hi] at k; exact k _ (he.put _ _)
  · show vcGuard ds E2 o _ _
    unfold vcGuard
    rw [hg]
    refine vcOpM_meek h' ?_
    cases nb with
    | none => exact k _ (he.put _ _)
    | some p =>
      obtain ⟨e, cs⟩ := p
      simp only at k ⊢
      split
      · rename_i hi; rw [if_pos hi] at k; exact k _ (he.put _ _)
      · rename_i hi; rw [if_neg hi] at k; exact k _ (he.put _ _)
theorem VX.meek [Dr] {d : Nat} {op : Op} {ty : TypeId} {pos : String} {after : Array Edge} {t : T} (h : opM tab (lookH H) H.length E.opd op = some (t, none)) (k : VX q P tab im ds l ((d, t) :: E) H K) : VX q P tab im ds (⟨some d, op, ty, pos, after, none⟩ :: l) E H K :=
  VX.meek' (o := ⟨some d, op, ty, pos, after, none⟩) rfl h k
theorem VX.new [Dr] {d : Nat} {op : Op} {ty : TypeId} {pos : String} {after : Array Edge} {t : T} {e : Nat} {cs : List T} (hi : imB im (some d) = false) (h : opM tab (lookH H) H.length E.opd op = some (t, some (e, cs))) (k : VX q P tab im ds l ((d, t) :: E) (H ++ [.c cs]) K) : VX q P tab im ds (⟨some d, op, ty, pos, after, none⟩ :: l) E H K :=
  VX.meek' (o := ⟨some d, op, ty, pos, after, none⟩) rfl h (by simp only [hi]; exact k)
theorem VX.newI [Dr] {d : Nat} {op : Op} {ty : TypeId} {pos : String} {after : Array Edge} {t : T} {e : Nat} {cs : List T} (hi : imB im (some d) = true) (h : opM tab (lookH H) H.length E.opd op = some (t, some (e, cs))) (k : VX q P tab im ds l ((d, immT t cs) :: E) H K) : VX q P tab im ds (⟨some d, op, ty, pos, after, none⟩ :: l) E H K :=
  VX.meek' (o := ⟨some d, op, ty, pos, after, none⟩) rfl h (by simp only [hi, if_true]; exact k)
theorem VX.guard [Dr] {dst : Option Nat} {op : Op} {ty : TypeId} {pos : String} {after : Array Edge} {j g : Nat} {want b : Bool} (hj : ds[j]? = some (some g)) (hb : E.get g = some (.v (.bool b)))
    (h1 : b = want → VX q P tab im ds (⟨dst, op, ty, pos, after, none⟩ :: l) E H K) (h0 : b = !want → VX q P tab im ds l (putC E dst (.v undef)) H K) : VX q P tab im ds (⟨dst, op, ty, pos, after, some (j, want)⟩ :: l) E H K := by
  intro E2 he
  have hb' : E2.get g = some (.v (.bool b)) := he _ _ hb
  have key : ∀ (A B : Prop), (b = want → A) → (b = !want → B) → vcGuard ds E2 ⟨dst, op, ty, pos, after, some (j, want)⟩ A B := by
    intro A B ha hbb
    unfold vcGuard
    simp only [hj, hb']
    by_cases hw : b = want
    · rw [if_pos hw]; exact ha hw
    · rw [if_neg hw]; exact hbb (by cases b <;> cases want <;> simp_all)
  cases q
  · exact key _ _ (fun hw => by have := h1 hw E2 he; exact this) (fun hw => h0 hw _ (he.put _ _))
  · exact key _ _ (fun hw => by have := h1 hw E2 he; exact this) (fun hw => h0 hw _ (he.put _ _))
theorem vcOp_mono [Dr] {o : Oper} {K1 K2 : Env → Hp → Prop} (k : ∀ t H', K1 (E.put o.dst t) H' → K2 (E.put o.dst t) H') (h : vcOp P tab im o E H K1) : vcOp P tab im o E H K2 := by
  unfold vcOp at h ⊢
  split at h
  · split at h
    · split at h
      · exact k _ _ h
      · exact h.elim
    · exact h.elim
  · split at h
    · exact h.mono fun t H' hq => k _ _ hq
    · intro X0 M B O us h1 h2 h3
      obtain ⟨f', tmps, asx, bd, y1, y2⟩ := h X0 M B O us h1 h2 h3
      exact ⟨f', tmps, asx, bd, y1, fun r => (y2 r).mono fun e w' ⟨u, t, H', M', k1, k2, k3, k4⟩ => ⟨u, t, H', M', k1, k2, k _ _ k3, k4⟩⟩
    · exact h.elim
  · split at h
    · split at h
      · split at h
        · exact k _ _ h
        · exact h.elim
      · exact h.elim
    · exact h.elim
  · split at h
    · split at h
      · split at h
        · exact k _ _ h
        · exact h.elim
      · exact h.elim
    · exact h.elim
  · split at h
    · split at h
      · split at h
        · exact k _ _ h
        · exact h.elim
      · exact h.elim
    · exact h.elim
  · split at h
    · exact k _ _ h
    · split at h
      · rename_i hi; rw [if_pos hi]; exact k _ _ h
      · rename_i hi; rw [if_neg hi]; exact k _ _ h
    · exact ⟨h.1, fun X0 M ρ' h1 h2 => by obtain ⟨t, H', M', a, b, c, d⟩ := h.2 X0 M ρ' h1 h2; exact ⟨t, H', M', a, b, c, k _ _ d⟩⟩
theorem vcOpM_mono [Dr] {o : Oper} {K1 K2 : Env → Hp → Prop} (k : ∀ t H', K1 (E.put o.dst t) H' → K2 (E.put o.dst t) H') (h : vcOpM P tab im o E H K1) : vcOpM P tab im o E H K2 := by
  unfold vcOpM at h ⊢
  split at h
  · split at h
    · obtain ⟨r, h1, h2⟩ := h; exact ⟨r, h1, k _ _ h2⟩
    · exact h.elim
  · split at h
    · exact k _ _ h
    · split at h
      · rename_i hi; rw [if_pos hi]; exact k _ _ h
      · rename_i hi; rw [if_neg hi]; exact k _ _ h
    · exact h.elim
theorem vcGuard_mono {o : Oper} {A B A' B' : Prop} (ha : A → A') (hb : B → B') (h : vcGuard ds E o A B) : vcGuard ds E o A' B' := by
  unfold vcGuard at h ⊢
  split at h
  · exact ha h
  · split at h
    · split at h
      · split at h
        · rename_i e; rw [if_pos e]; exact ha h
        · rename_i e; rw [if_neg e]; exact hb h
      · exact hb h
      · exact h.elim
    · exact h.elim
theorem vcSeq_mono' [Dr] : ∀ (l : List Oper) {E : Env} {H : Hp} {K1 K2 : Env → Hp → Prop}, (∀ E H, K1 E H → K2 E H) → vcSeq P tab im ds l E H K1 → vcSeq P tab im ds l E H K2
  | [], E, H, K1, K2, hk, h => hk _ _ h
  | o :: l, E, H, K1, K2, hk, h => vcGuard_mono (vcOp_mono fun t H' hq => vcSeq_mono' l hk hq) (fun hq => vcSeq_mono' l hk hq) h
theorem vcDraw_mono' [Dr] : ∀ (l : List Oper) {E : Env} {H : Hp} {K1 K2 : Env → Hp → Prop}, (∀ E H, K1 E H → K2 E H) → vcDraw P tab im ds l E H K1 → vcDraw P tab im ds l E H K2
  | [], E, H, K1, K2, hk, h => hk _ _ h
  | o :: l, E, H, K1, K2, hk, h => vcGuard_mono (vcOpM_mono fun t H' hq => vcDraw_mono' l hk hq) (fun hq => vcDraw_mono' l hk hq) h
theorem vcSeq_frame [Dr] : ∀ (l : List Oper) {E : Env} {H : Hp} {K : Env → Hp → Prop}, vcSeq P tab im ds l E H K → vcSeq P tab im ds l E H (fun E' H' => K E' H' ∧ ∀ k, (∀ o ∈ l, o.dst ≠ some k) → E'.get k = E.get k)
  | [], E, H, K, h => ⟨h, fun _ _ => rfl⟩
  | o :: l, E, H, K, h => by
    have un : ∀ t H', vcSeq P tab im ds l (E.put o.dst t) H' K → vcSeq P tab im ds l (E.put o.dst t) H' (fun E' H' => K E' H' ∧ ∀ k, (∀ o' ∈ o :: l, o'.dst ≠ some k) → E'.get k = E.get k) := by
      intro t H' hq
      refine vcSeq_mono' l (fun E' H' hh => ⟨hh.1, fun k hk => ?_⟩) (vcSeq_frame l hq)
      rw [hh.2 k fun o' ho' => hk o' (List.mem_cons_of_mem _ ho')]
      have := hk o List.mem_cons_self
      cases hd : o.dst with
      | none => rfl
      | some d => rw [get_put, if_neg (fun e => this (by rw [hd, e]))]
    exact vcGuard_mono (vcOp_mono fun t H' => un t H') (un _ _) h
theorem vcDraw_frame [Dr] : ∀ (l : List Oper) {E : Env} {H : Hp} {K : Env → Hp → Prop}, vcDraw P tab im ds l E H K → vcDraw P tab im ds l E H (fun E' H' => K E' H' ∧ ∀ k, (∀ o ∈ l, o.dst ≠ some k) → E'.get k = E.get k)
  | [], E, H, K, h => ⟨h, fun _ _ => rfl⟩
  | o :: l, E, H, K, h => by
    have un : ∀ t H', vcDraw P tab im ds l (E.put o.dst t) H' K → vcDraw P tab im ds l (E.put o.dst t) H' (fun E' H' => K E' H' ∧ ∀ k, (∀ o' ∈ o :: l, o'.dst ≠ some k) → E'.get k = E.get k) := by
      intro t H' hq
      refine vcDraw_mono' l (fun E' H' hh => ⟨hh.1, fun k hk => ?_⟩) (vcDraw_frame l hq)
      rw [hh.2 k fun o' ho' => hk o' (List.mem_cons_of_mem _ ho')]
      have := hk o List.mem_cons_self
      cases hd : o.dst with
      | none => rfl
      | some d => rw [get_put, if_neg (fun e => this (by rw [hd, e]))]
    exact vcGuard_mono (vcOpM_mono fun t H' => un t H') (un _ _) h
theorem vcSeq_app [Dr] : ∀ (l1 l2 : List Oper) {E : Env} {H : Hp} {K : Env → Hp → Prop}, vcSeq P tab im ds l1 E H (fun E H => vcSeq P tab im ds l2 E H K) → vcSeq P tab im ds (l1 ++ l2) E H K
  | [], _, _, _, _, h => h
  | o :: l1, l2, E, H, K, h => vcGuard_mono (vcOp_mono fun t H' hq => vcSeq_app l1 l2 hq) (fun hq => vcSeq_app l1 l2 hq) h
theorem vcDraw_app [Dr] : ∀ (l1 l2 : List Oper) {E : Env} {H : Hp} {K : Env → Hp → Prop}, vcDraw P tab im ds l1 E H (fun E H => vcDraw P tab im ds l2 E H K) → vcDraw P tab im ds (l1 ++ l2) E H K
  | [], _, _, _, _, h => h
  | o :: l1, l2, E, H, K, h => vcGuard_mono (vcOpM_mono fun t H' hq => vcDraw_app l1 l2 hq) (fun hq => vcDraw_app l1 l2 hq) h
def freshB (E : Env) (d : Nat) (l : List Oper) : Bool := l.all fun o => match o.dst with | some k => Nat.beq k d || (E.get k).isNone | none => true
theorem VX.merge [Dr] {d : Nat} {t : T} {l2 : List Oper} (l1 : List Oper) (hl : l = l1 ++ l2) (h : VX q P tab im ds l1 E H (fun E' H' => H' = H ∧ E'.get d = some t)) (hf : freshB E d l1 = true) (k : VX q P tab im ds l2 ((d, t) :: E) H K) : VX q P tab im ds l E H K := by
  intro E2 he
  have fin : ∀ (E' : Env) (H' : Hp), ((∃ E1, Sub E1 E' ∧ (H' = H ∧ E1.get d = some t)) ∧ ∀ k, (∀ o ∈ l1, o.dst ≠ some k) → E'.get k = E2.get k) → H' = H ∧ Sub ((d, t) :: E) E' := by
    rintro E' H' ⟨⟨E1, h1, h2, h3⟩, h4⟩
    refine ⟨h2, fun k s hk => ?_⟩
    have hk : (if d = k then some t else E.get k) = some s := hk
    by_cases e : d = k
    · subst e; rw [if_pos rfl] at hk; rw [← hk]; exact h1 _ _ h3
    · rw [if_neg e] at hk
      rw [h4 k fun o ho hd => ?_]
      · exact he _ _ hk
      · have := List.all_eq_true.1 hf o ho
        rw [hd] at this
        simp only [Bool.or_eq_true] at this
        rcases this with h5 | h5
        · exact e (Nat.eq_of_beq_eq_true h5).symm
        · rw [hk] at h5; cases h5
  cases q
  · have := vcSeq_frame _ (h E2 he)
    show vcSeq P tab im ds l E2 H _
    rw [hl]
    exact vcSeq_app _ _ (vcSeq_mono' _ (fun E' H' hh => by obtain ⟨rfl, h2⟩ := fin E' H' hh; exact k E' h2) this)
  · have := vcDraw_frame _ (h E2 he)
    show vcDraw P tab im ds l E2 H _
    rw [hl]
    exact vcDraw_app _ _ (vcDraw_mono' _ (fun E' H' hh => by obtain ⟨rfl, h2⟩ := fin E' H' hh; exact k E' h2) this)
theorem VX.store [Dr] {ty : TypeId} {pos : String} {after : Array Edge} {t : Nat} {a x : Operand} {b o : Nat} {tx : T} {i : TyI} {cs : List T} (hT : tab t = some i) (ha : E.opd a = some (.ptr b o)) (hx : E.opd x = some tx) (hc : lookH H b = some cs)
    (h1 : (flat tx).length = i.sz) (h2 : o + i.sz ≤ cs.length) (h3 : (flat tx).all cellB = true) (k : VX false P tab im ds l E (setH H b (.c (putL cs o (flat tx)))) K) : VX false P tab im ds (⟨none, .store t a x, ty, pos, after, none⟩ :: l) E H K := by
  intro E2 he
  show vcGuard ds E2 _ _ _
  unfold vcGuard vcOp
  simp only [he.opd ha, he.opd hx, mStore, hT, hc]
  rw [if_pos ⟨h1, h2, h3⟩]
  exact k _ he
theorem VX.callT [Dr] {d : Option Nat} {ty : TypeId} {pos : String} {after : Array Edge} {f : Operand} {args : Array Operand} {ats : Array TypeId} {g : FuncId} {fs cs ts : List T} (hf : E.opd f = some (.clo g fs cs)) (ha : optL E.opd args.toList = some ts)
    (hc : CallT P g (fs ++ ts ++ cs) H (fun t H' => VX false P tab im ds l (putC E d t) H' K)) : VX false P tab im ds (⟨d, .call ⟨.value f, args, ats⟩, ty, pos, after, none⟩ :: l) E H K := by
  intro E2 he
  show vcGuard ds E2 _ _ _
  unfold vcGuard vcOp
  simp only [he.opd hf, optL_mono (fun x t h => he.opd h) _ _ ha]
  exact hc.mono fun t H' h => h _ (he.put _ _)
theorem VX.callP [Dr] {d : Nat} {ty : TypeId} {pos : String} {after : Array Edge} {f : Operand} {args : Array Operand} {ats : Array TypeId} {g : FuncId} {fs cs ts asx : List T} {r : T} (hf : E.opd f = some (.clo g fs cs)) (ha : optL E.opd args.toList = some ts)
    (hc : CallP P g asx r) (hw : wkL (fs ++ ts ++ cs) asx) (hp : T.pureL (fs ++ ts ++ cs) = true) (k : VX q P tab im ds l ((d, r) :: E) H K) : VX q P tab im ds (⟨some d, .call ⟨.value f, args, ats⟩, ty, pos, after, none⟩ :: l) E H K := by
  intro E2 he
  have e1 := he.opd hf
  have e2 := optL_mono (fun x t h => he.opd h) _ _ ha
  cases q
  · show vcGuard ds E2 _ _ _
    unfold vcGuard vcOp
    simp only [e1, e2]
    refine ((hc.arg hw hp).callT H).mono ?_
    rintro t H' ⟨rfl, rfl⟩
    exact k _ (he.put (some d) _)
  · show vcGuard ds E2 _ _ _
    unfold vcGuard vcOpM
    simp only [e1, e2]
    exact ⟨r, hc.arg hw hp, k _ (he.put (some d) _)⟩
theorem VX.callP0 [Dr] {d : Nat} {ty : TypeId} {pos : String} {after : Array Edge} {f : Operand} {args : Array Operand} {ats : Array TypeId} {g : FuncId} {fs cs ts asx : List T} {r : T} (hf : E.opd f = some (.clo g fs cs)) (ha : optL E.opd args.toList = some ts)
    (hw : fs ++ ts ++ cs = asx) (hc : CallP P g asx r) (k : VX q P tab im ds l ((d, r) :: E) H K) : VX q P tab im ds (⟨some d, .call ⟨.value f, args, ats⟩, ty, pos, after, none⟩ :: l) E H K :=
  VX.callP hf ha hc (by rw [hw]; exact wkL_refl _) (by rw [hw]; exact hc.1) k
theorem VX.yield [Dr] {d : Option Nat} {ty : TypeId} {pos : String} {after : Array Edge} {f : Operand} {args : Array Operand} {ats : Array TypeId} {b : Nat} {ts : List T} (hf : E.opd f = some (.yl b)) (ha : optL E.opd args.toList = some ts)
    (hc : YieldT P b ts H (fun t H' => VX false P tab im ds l (putC E d t) H' K)) : VX false P tab im ds (⟨d, .call ⟨.value f, args, ats⟩, ty, pos, after, none⟩ :: l) E H K := by
  intro E2 he
  show vcGuard ds E2 _ _ _
  unfold vcGuard vcOp
  simp only [he.opd hf, optL_mono (fun x t h => he.opd h) _ _ ha]
  intro X0 M B O us h1 h2 h3
  obtain ⟨f', tmps, asx, bd, y1, y2⟩ := hc X0 M B O us h1 h2 h3
  exact ⟨f', tmps, asx, bd, y1, fun r => (y2 r).mono fun e w' ⟨u, t, H', M', k1, k2, k3, k4⟩ => ⟨u, t, H', M', k1, k2, k3 _ (he.put _ _), k4⟩⟩
theorem VX.append [Dr] {d : Nat} {ty : TypeId} {pos : String} {after : Array Edge} {x y : Operand} {t1 t2 : TypeId} {b o n z e n2 : Nat} {c : Option Nat} {tyv : T} {i j : TyI} {cs ys : List T} (hT : tab t1 = some i) (hk : i.k = .sl e) (hj : tab e = some j) (hx : E.opd x = some (.slc b o n z c)) (hy : E.opd y = some tyv) (hc : lookH H b = some cs)
    (hs : srcCells tab (lookH H) t2 j.sz tyv = some (ys, n2)) (hz : z = j.sz) (h1 : o + n * z ≤ cs.length) (h2 : (n + n2) * j.by_ ≤ 2 ^ 47) (h3 : n + n2 ≤ 2 ^ 47) (h4 : n2 * j.sz = ys.length) (h5 : ys.all cellB = true)
    (k : VX false P tab im ds l ((d, .slc H.length 0 (n + n2) z none) :: E) (setH H b .d ++ [.c ((cs.drop o).take (n * z) ++ ys)]) K) : VX false P tab im ds (⟨some d, .call ⟨.builtin .append, #[x, y], #[t1, t2]⟩, ty, pos, after, none⟩ :: l) E H K := by
  intro E2 he
  show vcGuard ds E2 _ _ _
  unfold vcGuard vcOp
  simp only [he.opd hx, he.opd hy, mAppend, hT, hk, hj, hs, hc]
  rw [if_pos ⟨hz, h1, h2, h3, h4, h5⟩]
  exact k _ (he.put (some d) _)
theorem VX.appendNil [Dr] {d : Nat} {ty : TypeId} {pos : String} {after : Array Edge} {x y : Operand} {t1 t2 : TypeId} {e n2 : Nat} {tyv : T} {i j : TyI} {ys : List T} (hT : tab t1 = some i) (hk : i.k = .sl e) (hj : tab e = some j) (hx : E.opd x = some (.v (.slice none 0 0))) (hy : E.opd y = some tyv)
    (hs : srcCells tab (lookH H) t2 j.sz tyv = some (ys, n2)) (h2 : n2 * j.by_ ≤ 2 ^ 47) (h3 : n2 ≤ 2 ^ 47) (h4 : n2 * j.sz = ys.length)
    (k : VX false P tab im ds l ((d, .slc H.length 0 n2 j.sz none) :: E) (H ++ [.c ys]) K) : VX false P tab im ds (⟨some d, .call ⟨.builtin .append, #[x, y], #[t1, t2]⟩, ty, pos, after, none⟩ :: l) E H K := by
  intro E2 he
  show vcGuard ds E2 _ _ _
  unfold vcGuard vcOp
  simp only [he.opd hx, he.opd hy, mAppend, hT, hk, hj, hs]
  rw [if_pos ⟨h2, h3, h4⟩]
  exact k _ (he.put (some d) _)
theorem VX.clear [Dr] {d : Option Nat} {ty : TypeId} {pos : String} {after : Array Edge} {x : Operand} {t : TypeId} {ta r : T} {H' : Hp} (hx : E.opd x = some ta) (hc : mClear tab H t ta = some (r, H'))
    (k : VX false P tab im ds l (putC E d r) H' K) : VX false P tab im ds (⟨d, .call ⟨.builtin .clear, #[x], #[t]⟩, ty, pos, after, none⟩ :: l) E H K := by
  intro E2 he
  show vcGuard ds E2 _ _ _
  unfold vcGuard vcOp
  simp only [he.opd hx, hc]
  exact k _ (he.put _ _)
theorem VX.copy [Dr] {d : Option Nat} {ty : TypeId} {pos : String} {after : Array Edge} {x y : Operand} {t1 t2 : TypeId} {ta tb r : T} {H' : Hp} (hx : E.opd x = some ta) (hy : E.opd y = some tb) (hc : mCopy tab H t1 t2 ta tb = some (r, H'))
    (k : VX false P tab im ds l (putC E d r) H' K) : VX false P tab im ds (⟨d, .call ⟨.builtin .copy, #[x, y], #[t1, t2]⟩, ty, pos, after, none⟩ :: l) E H K := by
  intro E2 he
  show vcGuard ds E2 _ _ _
  unfold vcGuard vcOp
  simp only [he.opd hx, he.opd hy, hc]
  exact k _ (he.put _ _)
end
section
variable {z : Bool} {P : Program} {tab : Tab} {n kb lb : Nat} {E : Env} {H : Hp} {QT : Exit → Env → Hp → Prop} {X0 : Nat → Prop} {a : Act} {M : Mp}
theorem St.eqv [Dr] {E' : Env} (h : St n kb E H X0 a M) (he : Sub E' E) : St n kb E' H X0 a M := ⟨fun d t ht => h.tm d t (he d t ht), h.sz, h.df, h.ge, h.sim⟩
theorem VC.eqv [Dr] {c : Code} (h : VC z P n lb c (fun e E' H' => ∃ E1, Sub E1 E' ∧ QT e E1 H') E H) : VC z P n lb c QT E H := fun X0 M a r kb hz hs =>
  wpIn_mono (h X0 M a r kb hz hs) fun e a' w' ⟨E', H', M', ⟨E1, h1, h2⟩, h3, h4, h5⟩ => ⟨E1, H', M', h2, h3, h4, h5.eqv h1⟩
theorem VC.regN [Dr] {id : Nat} {l : List Oper} (hT : TabOk P tab) (im : List Nat) (hd : dstB n l = true) (h : VX false P tab im (l.map (·.dst)) l E H (QT .normal)) : VC z P n lb (.region id l.toArray false) QT E H :=
  VC.eqv (VC.region hT im hd (h E (Sub.refl E)))
theorem VC.drwN [Dr] {id : Nat} {l l2 : List Oper} (hT : TabOk P tab) (im : List Nat) (l1 : List Oper) (hl : l = l1 ++ l2) (hm : P.follows .mixedOrders = true) (hB : drawB n l1.length l = true) (h : VX true P tab im (l.map (·.dst)) l1 E H fun E H => VX false P tab im (l.map (·.dst)) l2 E H (QT .normal)) : VC z P n lb (.region id l.toArray true) QT E H := by
  have e1 : l.take l1.length = l1 := by rw [hl, List.take_left]
  have e2 : l.drop l1.length = l2 := by rw [hl, List.drop_left]
  have h : VX true P tab im (l.map (·.dst)) (l.take l1.length) E H fun E H => VX false P tab im (l.map (·.dst)) (l.drop l1.length) E H (QT .normal) := by rw [e1, e2]; exact h
  clear e1 e2
  generalize l1.length = m at *
  refine VC.eqv (VC.draw hT im m hm hB ?_)
  exact vcDraw_mono' _ (fun E' H' ⟨E1, h1, h2⟩ => h2 E' h1) (h E (Sub.refl E))
theorem VC.reg [Dr] {id : Nat} {l : List Oper} {c : Code} (hT : TabOk P tab) (im : List Nat) (hd : dstB n l = true) (h : VX false P tab im (l.map (·.dst)) l E H fun E H => VC z P n lb c QT E H) : VC z P n lb (.seq (.region id l.toArray false) c) QT E H := VC.seq (VC.regN hT im hd h)
theorem VC.drw [Dr] {id : Nat} {l l2 : List Oper} {c : Code} (hT : TabOk P tab) (im : List Nat) (l1 : List Oper) (hl : l = l1 ++ l2) (hm : P.follows .mixedOrders = true) (hB : drawB n l1.length l = true) (h : VX true P tab im (l.map (·.dst)) l1 E H fun E H => VX false P tab im (l.map (·.dst)) l2 E H fun E H => VC z P n lb c QT E H) : VC z P n lb (.seq (.region id l.toArray true) c) QT E H := VC.seq (VC.drwN hT im l1 hl hm hB h)
theorem VC.condT [Dr] {c : Operand} {x y : Code} (hc : E.opd c = some (.v (.bool true))) (h : VC z P n lb x QT E H) : VC z P n lb (.cond c x y) QT E H := VC.cond hc (fun _ => h) (fun h => by cases h)
theorem VC.condF [Dr] {c : Operand} {x y : Code} (hc : E.opd c = some (.v (.bool false))) (h : VC z P n lb y QT E H) : VC z P n lb (.cond c x y) QT E H := VC.cond hc (fun h => by cases h) (fun _ => h)
theorem stepR_scope {P : Program} {b : Frame} {a : Act} {k : List Item} {cs : List Frame} {w : World} {c : Code} : step P (lone (b.atR a (.code (.scope c) :: k)) cs w) = .next (lone (b.atR a (.code c :: .inScope c :: k)) cs w) :=
  step_lone_go (by simp [stepG, stepG.exec, Frame.atR])
theorem stepR_inScope {P : Program} {b : Frame} {a : Act} {k : List Item} {cs : List Frame} {w : World} {c : Code} : step P (lone (b.atR a (.inScope c :: k)) cs w) = .next (lone (b.atR a k) cs w) :=
  step_lone_go (by simp [stepG, stepG.exec, Frame.atR])
theorem wpIn_scope {F : Fence} {n : Nat} {P : Program} {Q : Exit → Act → World → Prop} {a : Act} {w : World} {c : Code} (h : c.wpIn F n P (Exit.noGoto Q) a w) : (Code.scope c).wpIn F n P Q a w := by
  intro b k cs hro hb hr
  have h0 : (lone (b.atR a (.code (.scope c) :: k)) cs w).fenced P F := fenced_calm hb hr rfl
  obtain ⟨e, a₁, w₁, hq, harr⟩ := h b (.inScope c :: k) cs hro hb hr
  cases e with
  | normal => exact ⟨.normal, a₁, w₁, hq, .head h0 stepR_scope (StepsIn.trans harr (.one (fenced_calm hb hr rfl) stepR_inScope))⟩
  | exit id =>
    have hx : exitTo id (.inScope c :: k) = exitTo id k := by simp [exitTo]
    exact ⟨.exit id, a₁, w₁, hq, fun k' hk => .head h0 stepR_scope (harr.1 k' (by rw [hx]; exact hk)),
        fun hr' hk => let ⟨k₁, h1, h2⟩ := harr.2 hr' (by rw [hx]; exact hk); ⟨k₁, h1, .head h0 stepR_scope h2⟩⟩
  | goto l => exact hq.elim
  | ret => exact ⟨_, a₁, w₁, hq, .of_steps (.one h0 stepR_scope) harr⟩
  | panic ch => exact ⟨_, a₁, w₁, hq, .of_steps (.one h0 stepR_scope) harr⟩
  | outgrown => exact ⟨_, a₁, w₁, hq, .of_steps (.one h0 stepR_scope) harr⟩
def ExScope (QT : Exit → Env → Hp → Prop) : Exit → Env → Hp → Prop
  | .goto _, _, _ => False
  | e, E, H => QT e E H
theorem VC.scope [Dr] {c : Code} (h : VC z P n lb c (ExScope QT) E H) : VC z P n lb (.scope c) QT E H := by
  intro X0 M a r kb hz hs
  refine wpIn_scope (wpIn_mono (h X0 M a r kb hz hs) fun e a' w' hl => ?_)
  obtain ⟨E', H', M', h1, h2⟩ := hl
  cases e with
  | goto l => exact h1
  | _ => exact ⟨E', H', M', h1, h2⟩
theorem VC.label [Dr] {l : Nat} (h : QT .normal E H) : VC z P n lb (.label l) QT E H := fun X0 M a r kb hz hs => wpIn_label ⟨E, H, M, h, rfl, EvoK.refl _ _, hs⟩
end
end
section
open Go.RowKit
structure Vw where
  R : Nat → Nat → Prop
  V : Nat → Prop
  F : Nat → List T → Prop
  /-- old maps that are written no more -/
  G : Nat → List Value → List T → Prop
mutual
inductive Cv (v : Vw) : T → T → Prop
  | pure {t : T} (h : t.pure = true) : Cv v t t
  | nil (c : Option Nat) (h : c = none ∨ c = some 0) : Cv v (.v (.slice none 0 0)) (.islc [] 0 c)
  | nilv {b z : Nat} (h : v.V b) : Cv v (.v (.slice none 0 0)) (.slc b 0 0 z none)
  | ptr {b b' o : Nat} (h : v.R b' b) : Cv v (.ptr b o) (.ptr b' o)
  | slc {b b' o n z : Nat} {c c' : Option Nat} (h : v.R b' b) (hc : c' = c ∨ c' = none) : Cv v (.slc b o n z c) (.slc b' o n z c')
  | yl {b b' : Nat} (h : v.R b' b) : Cv v (.yl b) (.yl b')
  | fptr {b o : Nat} {cs cs' : List T} (h : v.F b cs) (hl : CvL v cs cs') : Cv v (.ptr b o) (.iptr cs' o)
  | fslc {b o n z : Nat} {c c' : Option Nat} {cs xs cs' : List T} (h : v.F b cs) (hx : ∀ (i : Nat) (t : T), xs[i]? = some t → cs[o + i]? = some t) (hl : CvL v xs cs') (hc : c' = c ∨ c' = none) : Cv v (.slc b o n z c) (.islc cs' n c')
  | agg {a b : List T} (h : CvL v a b) : Cv v (.agg a) (.agg b)
  | tup {a b : List T} (h : CvL v a b) : Cv v (.tup a) (.tup b)
  | clo {f : FuncId} {a b c d : List T} (h : CvL v a b) (k : CvL v c d) : Cv v (.clo f a c) (.clo f b d)
  | iptr {a b : List T} {o : Nat} (h : CvL v a b) : Cv v (.iptr a o) (.iptr b o)
  | islc {a b : List T} {n : Nat} {c c' : Option Nat} (h : CvL v a b) (hc : c' = c ∨ c' = none) : Cv v (.islc a n c) (.islc b n c')
  | mp {ks : List Value} {a b : List T} (h : CvL v a b) : Cv v (.mp ks a) (.mp ks b)
  | om {b b' : Nat} (h : v.R b' b) : Cv v (.om b) (.om b')
  | fom {b : Nat} {ks : List Value} {ts us : List T} (h : v.G b ks ts) (hl : CvL v ts us) : Cv v (.om b) (.mp ks us)
  | islcT {a b xs : List T} {n : Nat} {c c' : Option Nat} (h : CvL v a b) (hc : c' = c ∨ c' = none) : Cv v (.islc (a ++ xs) n c) (.islc b n c')
inductive CvL (v : Vw) : List T → List T → Prop
  | nil : CvL v [] []
  | cons {t u : T} {ts us : List T} (h : Cv v t u) (k : CvL v ts us) : CvL v (t :: ts) (u :: us)
end
theorem CvL.pure {v : Vw} : ∀ {ts : List T}, T.pureL ts = true → CvL v ts ts
  | [], _ => .nil
  | t :: ts, h => by simp only [T.pureL, Bool.and_eq_true] at h; exact .cons (.pure h.1) (CvL.pure h.2)
theorem Cv.eq {v : Vw} {t u : T} (h : t = u) (p : u.pure = true) : Cv v t u := by subst h; exact .pure p
theorem CvL.eq {v : Vw} {t u : List T} (h : t = u) (p : T.pureL u = true) : CvL v t u := by subst h; exact .pure p
structure VwOk (v : Vw) (M M2 : Mp) : Prop where
  st : StaysI M M2
  sh : ∀ B s, M.w.shape? B = some s → M2.w.shape? B = some s
  r : ∀ b' b, v.R b' b → M2.β b' = M.β b
  vt : ∀ b', v.V b' → M2.β b' = some none
  f : ∀ b cs, v.F b cs → (∀ B O, M.β b = some (some (B, O)) → ∃ a, M2.imm B a ∧ RepA M cs a O) ∧ (M.β b = some none → cs = [])
  g : ∀ b ks ts, v.G b ks ts → ∀ B O, M.β b = some (some (B, O)) → ∃ es n us, ¬ M2.X B ∧ M2.w.heap[B]? = some (.map es n) ∧ mapIs es n ks us ∧ RepL M ts us
theorem cap_or {c c' : Option Nat} {k : Nat} (hc : c' = c ∨ c' = none) (h : ∀ q, c = some q → k = q) : ∀ q, c' = some q → k = q := by
  rcases hc with rfl | rfl
  · exact h
  · intro q hq; cases hq
theorem cap_or0 {c c' : Option Nat} (hc : c' = c ∨ c' = none) (h : ∀ q, c = some q → q = 0) : ∀ q, c' = some q → q = 0 := by
  rcases hc with rfl | rfl
  · exact h
  · intro q hq; cases hq
mutual
theorem Cv.rep {v : Vw} {M M2 : Mp} (k : VwOk v M M2) : ∀ {t t' : T} (u : Value), Cv v t t' → Rep M t u → Rep M2 t' u
  | _, _, u, .pure h, r => Rep.staysI k.st _ _ h r
  | _, _, u, .nil c h, r => by
    obtain rfl := r
    exact ⟨none, 0, rfl, Nat.le_refl _, Nat.zero_le _, fun q hq => by rcases h with rfl | rfl <;> simp_all, .inl ⟨rfl, rfl⟩⟩
  | _, _, u, .nilv h, r => by obtain rfl := r; exact .inl ⟨k.vt _ h, rfl, rfl, fun q hq => (by cases hq), none, rfl⟩
  | _, _, u, .ptr h, r => by obtain ⟨B, O, h1, h2⟩ := r; exact ⟨B, O, (k.r _ _ h).trans h1, h2⟩
  | _, _, u, .slc h hc, r => by
    rcases r with ⟨h1, h2, h3, h4, h5⟩ | ⟨B, O, q, h1, h2, h3, h4, h5, e, s, h6, h7⟩
    · exact .inl ⟨(k.r _ _ h).trans h1, h2, h3, cap_or0 hc h4, h5⟩
    · exact .inr ⟨B, O, q, (k.r _ _ h).trans h1, h2, h3, h4, cap_or hc h5, e, s, k.sh _ _ h6, h7⟩
  | _, _, u, .yl h, r => by obtain ⟨B, O, h1, h2⟩ := r; exact ⟨B, O, (k.r _ _ h).trans h1, h2⟩
  | _, _, u, .fptr h hl, r => by
    obtain ⟨B, O, h1, h2⟩ := r
    obtain ⟨a, h3, h4⟩ := (k.f _ _ h).1 B O h1
    exact ⟨B, O, a, h2, h3, CvL.repA k a O hl h4⟩
  | _, _, u, .fslc (xs := xs) h hx hl hc, r => by
    rcases r with ⟨h1, h2, h3, h4, h5⟩ | ⟨B, O, q, h1, h2, h3, h4, h5, e, s, h6, h7⟩
    · obtain rfl := (k.f _ _ h).2 h1
      have : xs = [] := by
        cases xs with
        | nil => rfl
        | cons x r => have := hx 0 x rfl; simp at this
      subst this
      cases hl
      obtain ⟨A, rfl⟩ := h5
      exact ⟨A, 0, by rw [h2], by omega, Nat.zero_le _, fun q hq => (cap_or0 hc h4 q hq).symm, .inl ⟨rfl, h2⟩⟩
    · obtain ⟨a, h8, h9⟩ := (k.f _ _ h).1 B O h1
      exact ⟨_, q, h2, h3, h4, cap_or hc h5, .inr ⟨B, O + _, a, rfl, h8, CvL.repA k a _ hl (h9.sub hx)⟩⟩
  | _, _, u, .agg h, r => by obtain ⟨us, h1, h2⟩ := r; exact ⟨us, h1, CvL.repL k us h h2⟩
  | _, _, u, .tup h, r => by obtain ⟨us, h1, h2⟩ := r; exact ⟨us, h1, CvL.repL k us h h2⟩
  | _, _, u, .clo h h', r => by obtain ⟨us, ws, h1, h2, h3⟩ := r; exact ⟨us, ws, h1, CvL.repL k us h h2, CvL.repL k ws h' h3⟩
  | _, _, u, .iptr h, r => by obtain ⟨B, O, a, h1, h2, h3⟩ := r; exact ⟨B, O, a, h1, k.st.imm _ _ h2, CvL.repA k a O h h3⟩
  | _, _, u, .islc h hc, r => by
    obtain ⟨A, q, h1, h2, h3, h4, h5⟩ := r
    refine ⟨A, q, h1, h2, h3, cap_or hc h4, ?_⟩
    rcases h5 with ⟨rfl, h6⟩ | ⟨B, O, a, h6, h7, h8⟩
    · cases h; exact .inl ⟨rfl, h6⟩
    · exact .inr ⟨B, O, a, h6, k.st.imm _ _ h7, CvL.repA k a O h h8⟩
  | _, _, u, .mp h, r => by
    obtain ⟨rr, es, n, us, h1, h2, h3, h4, h5⟩ := r
    obtain ⟨q1, q2⟩ := k.st.obj _ _ h2 h3 (fun d => by simp)
    exact ⟨rr, es, n, us, h1, q1, q2, h4, CvL.repL k us h h5⟩
  | _, _, u, .om h, r => by obtain ⟨B, O, h1, h2⟩ := r; exact ⟨B, O, (k.r _ _ h).trans h1, h2⟩
  | _, _, u, .fom h hl, r => by
    obtain ⟨B, O, h1, h2⟩ := r
    obtain ⟨es, n, us, q1, q2, q3, q4⟩ := k.g _ _ _ h B O h1
    exact ⟨B, es, n, us, h2, q1, q2, q3, CvL.repL k us hl q4⟩
  | _, _, u, .islcT (a := a) (xs := xs) h hc, r => by
    obtain ⟨A, q, h1, h2, h3, h4, h5⟩ := r
    refine ⟨A, q, h1, h2, h3, cap_or hc h4, ?_⟩
    rcases h5 with ⟨h5, h6⟩ | ⟨B, O, arr, h6, h7, h8⟩
    · have : a = [] := (List.append_eq_nil_iff.1 h5).1
      subst this; cases h; exact .inl ⟨rfl, h6⟩
    · have h9 : RepA M a arr (O + 0) := h8.sub fun j t ht => by rw [Nat.zero_add, List.getElem?_append_left (List.getElem?_eq_some_iff.1 ht).1]; exact ht
      exact .inr ⟨B, O, arr, h6, k.st.imm _ _ h7, CvL.repA k arr O h h9⟩
theorem CvL.repL {v : Vw} {M M2 : Mp} (k : VwOk v M M2) : ∀ {ts ts' : List T} (us : List Value), CvL v ts ts' → RepL M ts us → RepL M2 ts' us
  | _, _, us, .nil, r => r
  | _, _, us, .cons h h', r => by obtain ⟨u, q, h1, h2, h3⟩ := r; exact ⟨u, q, h1, Cv.rep k u h h2, CvL.repL k q h' h3⟩
theorem CvL.repA {v : Vw} {M M2 : Mp} (k : VwOk v M M2) : ∀ {ts ts' : List T} (a : Array Value) (j : Nat), CvL v ts ts' → RepA M ts a j → RepA M2 ts' a j
  | _, _, a, j, .nil, r => trivial
  | _, _, a, j, .cons h h', r => by obtain ⟨u, h1, h2, h3⟩ := r; exact ⟨u, h1, Cv.rep k u h h2, CvL.repA k a (j + 1) h' h3⟩
end
def mapP (ks : List Value) (ts : List T) : OP :=
  ⟨fun M o => ∃ es n us, o = .map es n ∧ mapIs es n ks us ∧ RepL M ts us, fun h ⟨es, n, us, h1, h2, h3⟩ => ⟨es, n, us, h1, h2, RepL.stays h ts us h3⟩,
   T.pureL ts, fun p _ _ _ h ⟨es, n, us, h1, h2, h3⟩ => ⟨es, n, us, h1, h2, RepL.staysI h ts us p h3⟩⟩
def vwL (H : Hp) (ρ : List (Option Nat)) : Vw := ⟨fun b' b => ρ[b']? = some (some b), fun b' => ρ[b']? = some none, fun b cs => lookH H b = some cs ∧ some b ∉ ρ, fun b ks ts => blkH H b = .o (mapP ks ts) ∧ some b ∉ ρ⟩
def CvE (v : Vw) (E : Env) : Env → Prop
  | [] => True
  | (d, t) :: r => (∃ s, E.get d = some s ∧ Cv v s t) ∧ CvE v E r
def CvB (v : Vw) (H : Hp) : Option Nat → Blk → Prop
  | some b, .c cs' => ∃ cs, lookH H b = some cs ∧ CvL v cs cs'
  | none, .c cs' => cs' = []
  | some b, .o p => blkH H b = .o p
  | none, .o _ => False
  | _, .d => True
def CvH (v : Vw) (H : Hp) : List (Option Nat) → Hp → Prop
  | [], [] => True
  | r :: ρ, x :: H2 => CvB v H r x ∧ CvH v H ρ H2
  | _, _ => False
def noneIn : Option Nat → List (Option Nat) → Bool
  | none, _ => true
  | some b, l => l.all fun x => match x with | some c => !(Nat.beq b c) | none => true
def injB : List (Option Nat) → Bool
  | [] => true
  | x :: r => noneIn x r && injB r
def lbOk : Nat → Nat → List (Option Nat) → Prop
  | 0, _, _ => True
  | k + 1, i, some b :: r => b = i ∧ lbOk k (i + 1) r
  | _ + 1, _, _ => False
def noO : Hp → Bool
  | [] => true
  | .o p :: r => p.pi && noO r
  | _ :: r => noO r
def Conv (lb : Nat) (E : Env) (H : Hp) (E2 : Env) (H2 : Hp) : Prop := ∃ ρ : List (Option Nat), injB ρ = true ∧ lbOk lb 0 ρ ∧ noO H2 = true ∧ CvE (vwL H ρ) E E2 ∧ CvH (vwL H ρ) H ρ H2
theorem CvE_cons {v : Vw} {E r : Env} {d : Nat} {s t : T} (h : E.get d = some s) (k : Cv v s t) (l : CvE v E r) : CvE v E ((d, t) :: r) := ⟨⟨s, h, k⟩, l⟩
theorem CvE_app {v : Vw} {E : Env} : ∀ {a b : Env}, CvE v E a → CvE v E b → CvE v E (a ++ b)
  | [], _, _, k => k
  | (d, t) :: a, _, ⟨h1, h2⟩, k => ⟨h1, CvE_app h2 k⟩
theorem CvH_cons {v : Vw} {H H2 : Hp} {r : Option Nat} {ρ : List (Option Nat)} {x : Blk} (h : CvB v H r x) (k : CvH v H ρ H2) : CvH v H (r :: ρ) (x :: H2) := ⟨h, k⟩
theorem CvB_c {v : Vw} {H : Hp} {b : Nat} {cs cs' : List T} (h : lookH H b = some cs) (k : CvL v cs cs') : CvB v H (some b) (.c cs') := ⟨cs, h, k⟩
theorem CvB_n {v : Vw} {H : Hp} : CvB v H none (.c []) := rfl
theorem CvB_d {v : Vw} {H : Hp} {r : Option Nat} : CvB v H r .d := by cases r <;> trivial
theorem CvE.get {v : Vw} {E : Env} : ∀ {E2 : Env}, CvE v E E2 → ∀ d t, E2.get d = some t → ∃ s, E.get d = some s ∧ Cv v s t
  | [], _, d, t, h => by cases h
  | (k, x) :: r, ⟨h1, h2⟩, d, t, h => by
    simp only [Env.get] at h
    split at h
    · rename_i hk; subst hk; injection h with h; subst h; exact h1
    · exact CvE.get h2 d t h
theorem CvH.length {v : Vw} {H : Hp} : ∀ {ρ : List (Option Nat)} {H2 : Hp}, CvH v H ρ H2 → ρ.length = H2.length
  | [], [], _ => rfl
  | _ :: ρ, _ :: H2, ⟨_, h⟩ => by simp [CvH.length h]
theorem CvH.at {v : Vw} {H : Hp} : ∀ {ρ : List (Option Nat)} {H2 : Hp}, CvH v H ρ H2 → ∀ i, i < H2.length → ∃ r, ρ[i]? = some r ∧ CvB v H r (blkH H2 i)
  | [], [], _, i, hi => by simp at hi
  | r :: ρ, x :: H2, ⟨h, _⟩, 0, _ => ⟨r, rfl, h⟩
  | r :: ρ, x :: H2, ⟨_, h⟩, i + 1, hi => by simpa [blkH] using CvH.at h i (by simpa using hi)
theorem injB_at : ∀ {ρ : List (Option Nat)}, injB ρ = true → ∀ (i j b : Nat), ρ[i]? = some (some b) → ρ[j]? = some (some b) → i = j
  | [], _, i, j, b, h, _ => by simp at h
  | x :: r, hh, i, j, b, h1, h2 => by
    simp only [injB, Bool.and_eq_true] at hh
    have no : x = some b → ∀ k, r[k]? ≠ some (some b) := fun hx k hk => by
      subst hx
      have := List.all_eq_true.1 hh.1 _ (List.mem_of_getElem? hk)
      simp at this
    cases i with
    | zero =>
      cases j with
      | zero => rfl
      | succ j => simp at h1 h2; exact absurd h2 (no h1 j)
    | succ i =>
      cases j with
      | zero => simp at h1 h2; exact absurd h1 (no h2 i)
      | succ j => simp at h1 h2; rw [injB_at hh.2 i j b h1 h2]
theorem lbOk_at : ∀ {k i : Nat} {ρ : List (Option Nat)}, lbOk k i ρ → ∀ j, j < k → ρ[j]? = some (some (i + j))
  | k + 1, i, some b :: r, ⟨h1, h2⟩, 0, _ => by subst h1; rfl
  | k + 1, i, some b :: r, ⟨h1, h2⟩, j + 1, hj => by
    have := lbOk_at h2 j (by omega)
    simpa [Nat.add_assoc, Nat.add_comm 1 j] using this
theorem noO_at : ∀ {H : Hp}, noO H = true → ∀ b p, blkH H b = .o p → p.pi = true
  | [], _, b, p, k => by simp [blkH] at k
  | .c cs :: r, h, 0, p, k => by simp [blkH] at k
  | .d :: r, h, 0, p, k => by simp [blkH] at k
  | .o q :: r, h, 0, p, k => by
    simp only [noO, Bool.and_eq_true] at h
    simp only [blkH] at k
    injection k with k; subst k; exact h.1
  | .c cs :: r, h, b + 1, p, k => noO_at (by simpa [noO] using h) b p (by simpa only [blkH] using k)
  | .d :: r, h, b + 1, p, k => noO_at (by simpa [noO] using h) b p (by simpa only [blkH] using k)
  | .o q :: r, h, b + 1, p, k => by
    simp only [noO, Bool.and_eq_true] at h
    exact noO_at h.2 b p (by simpa only [blkH] using k)
section
variable {z : Bool} {P : Program} {tab : Tab} {n kb lb : Nat} {E : Env} {H : Hp} {QT : Exit → Env → Hp → Prop} {X0 : Nat → Prop} {a : Act} {M : Mp}
theorem blk_mapped {v : Vw} {b : Nat} {x : Blk} (h : CvB v H (some b) x) (hx : x ≠ .d) : blkH H b ≠ .d := by
  cases x with
  | c cs => obtain ⟨cs0, h1, -⟩ := h; rw [lookH_c.1 h1]; simp
  | o p => have h : blkH H b = .o p := h; rw [h]; simp
  | d => exact absurd rfl hx
def viewM (M : Mp) (X0 : Nat → Prop) (H2 : Hp) (ρ : List (Option Nat)) : Mp :=
  let β := fun b' => match ρ[b']? with | some (some b) => M.β b | some none => some none | none => none
  ⟨β, fun B => X0 B ∨ ∃ b' O, blkH H2 b' ≠ .d ∧ β b' = some (some (B, O)), M.w⟩
theorem view_ok [Dr] {ρ : List (Option Nat)} {H2 : Hp} (hS : SimH H X0 M) (hi : injB ρ = true) (hO : noO H2 = true) (hH : CvH (vwL H ρ) H ρ H2) :
    VwOk (vwL H ρ) M (viewM M X0 H2 ρ) ∧ SimH H2 X0 (viewM M X0 H2 ρ) ∧ (∀ B, (viewM M X0 H2 ρ).X B → M.X B) := by
  have hlen := hH.length
  have hβ : ∀ b' b, ρ[b']? = some (some b) → (viewM M X0 H2 ρ).β b' = M.β b := fun b' b h => by show (match ρ[b']? with | some (some b) => M.β b | some none => some none | none => none) = _; rw [h]
  have hβn : ∀ b', ρ[b']? = some none → (viewM M X0 H2 ρ).β b' = some none := fun b' h => by show (match ρ[b']? with | some (some b) => M.β b | some none => some none | none => none) = _; rw [h]
  have hβo : ∀ b', ρ[b']? = none → (viewM M X0 H2 ρ).β b' = none := fun b' h => by show (match ρ[b']? with | some (some b) => M.β b | some none => some none | none => none) = _; rw [h]
  have hmap : ∀ b' B O, blkH H2 b' ≠ .d → (viewM M X0 H2 ρ).β b' = some (some (B, O)) → ∃ b, ρ[b']? = some (some b) ∧ blkH H b ≠ .d ∧ M.β b = some (some (B, O)) := fun b' B O h1 h2 => by
    have hlt := blkH_lt h1
    obtain ⟨r, h3, h4⟩ := hH.at b' hlt
    cases r with
    | none => rw [hβn b' h3] at h2; cases h2
    | some b => rw [hβ b' b h3] at h2; exact ⟨b, h3, blk_mapped h4 h1, h2⟩
  have hX : ∀ B, (viewM M X0 H2 ρ).X B → M.X B := fun B hB => by
    rcases hB with h | ⟨b', O, h1, h2⟩
    · exact (hS.own B).2 (.inl h)
    · obtain ⟨b, h3, h4, h5⟩ := hmap b' B O h1 h2
      exact (hS.own B).2 (.inr ⟨b, O, h4, h5⟩)
  have hst : StaysI M (viewM M X0 H2 ρ) := ⟨fun B o h1 h2 _ => ⟨fun h => h1 (hX B h), h2⟩⟩
  have hok : VwOk (vwL H ρ) M (viewM M X0 H2 ρ) := by
    refine ⟨hst, fun _ _ h => h, hβ, hβn, fun b cs hF => ?_, fun b ks ts hG B O hB => ?_⟩
    rotate_left
    · obtain ⟨hc, hno⟩ := hG
      obtain ⟨B', o, h1, h2, h3, ⟨es, n, us, e1, h4, h5⟩, h6⟩ := hS.liveo b _ hc (blkH_lt (by rw [hc]; simp))
      rw [hB] at h1; injection h1 with h1; injection h1 with h1; injection h1 with e2 e3; subst e2
      refine ⟨es, n, us, ?_, by rw [← e1]; exact h2, h4, h5⟩
      rintro (hx | ⟨b', O', g1, g2⟩)
      · exact h6 hx
      · obtain ⟨b2, g3, g4, g5⟩ := hmap b' B O' g1 g2
        have := hS.inj b2 b B O' O g4 (by rw [hc]; simp) g5 hB
        subst this
        exact hno (List.mem_of_getElem? g3)
    obtain ⟨hc, hno⟩ := hF
    have hcb := lookH_c.1 hc
    refine ⟨fun B O hB => ?_, fun hB => ?_⟩
    · rcases hS.live b cs hcb (lookH_lt hc) with ⟨h1, -⟩ | ⟨B', O', ar, e, fz, h1, h2, h3, h4, h5, h6⟩
      · rw [hB] at h1; cases h1
      · rw [hB] at h1; injection h1 with h1; injection h1 with h1; injection h1 with e1 e2; subst e1 e2
        refine ⟨ar, ⟨?_, e, fz, h2⟩, h4⟩
        rintro (hx | ⟨b', O', g1, g2⟩)
        · exact h6 hx
        · obtain ⟨b2, g3, g4, g5⟩ := hmap b' B O' g1 g2
          have := hS.inj b2 b B O' O g4 (by rw [hcb]; simp) g5 hB
          subst this
          exact hno (List.mem_of_getElem? g3)
    · rcases hS.live b cs hcb (lookH_lt hc) with ⟨-, h2⟩ | ⟨B', O', ar, e, fz, h1, -⟩
      · exact h2
      · rw [hB] at h1; cases h1
  refine ⟨hok, ⟨fun b' cells hb hd => ?_, fun b' p hb hd => ?_, fun b1 b2 B O O' h1 h2 h3 h4 => ?_, fun b' hb => ?_, fun B => Iff.rfl, fun B hB => hS.bnd B (hX B hB), Glo.sub hS.glo rfl hX⟩, hX⟩
  · obtain ⟨r, h3, h4⟩ := hH.at b' hd
    rw [hb] at h4
    cases r with
    | none => exact .inl ⟨hβn b' h3, h4⟩
    | some b =>
      obtain ⟨cs, h5, h6⟩ := h4
      rcases hS.live b cs (lookH_c.1 h5) (lookH_lt h5) with ⟨h1, h2⟩ | ⟨B, O, ar, e, fz, h1, h2, h7, h8, h9, h10⟩
      · subst h2; cases h6; exact .inl ⟨(hβ b' b h3).trans h1, rfl⟩
      · exact .inr ⟨B, O, ar, e, fz, (hβ b' b h3).trans h1, h2, h7, h6.repA hok ar O h8, h9, h10⟩
  · obtain ⟨r, h3, h4⟩ := hH.at b' hd
    rw [hb] at h4
    cases r with
    | none => exact h4.elim
    | some b =>
      have h4 : blkH H b = .o p := h4
      obtain ⟨B, o, k1, k2, k3, k4, k5⟩ := hS.liveo b p h4 (blkH_lt (by rw [h4]; simp))
      exact ⟨B, o, (hβ b' b h3).trans k1, k2, k3, p.sti (noO_at hO b' p hb) hst k4, k5⟩
  · obtain ⟨c1, g1, g2, g3⟩ := hmap b1 B O h1 h3
    obtain ⟨c2, k1, k2, k3⟩ := hmap b2 B O' h2 h4
    have := hS.inj c1 c2 B O O' g2 k2 g3 k3
    subst this
    exact injB_at hi b1 b2 c1 g1 k1
  · exact hβo b' (by rw [List.getElem?_eq_none_iff]; omega)
theorem St.conv [Dr] {E2 : Env} {H2 : Hp} (hs : St n kb E H X0 a M) (hc : Conv lb E H E2 H2) : ∃ M2, M2.w = M.w ∧ EvoK lb X0 M M2 ∧ St n kb E2 H2 X0 a M2 := by
  obtain ⟨ρ, hi, hl, hO, hE, hH⟩ := hc
  obtain ⟨h1, h2, h3⟩ := view_ok hs.sim hi hO hH
  have hev : EvoK lb X0 M (viewM M X0 H2 ρ) := ⟨fun b p hb hp => by
    have h4 := lbOk_at hl b hb
    rw [Nat.zero_add] at h4
    exact (h1.r b b h4).trans hp, fun B _ hx h => hx (h3 B h), fun _ _ _ => rfl, fun _ _ h => h, rfl, Tp.refl _, rfl, Nat.le_refl _⟩
  refine ⟨viewM M X0 H2 ρ, rfl, hev, fun d t ht => ?_, hs.sz, ?_, hs.ge, h2⟩
  · obtain ⟨s, g1, g2⟩ := hE.get d t ht
    obtain ⟨u, g3, g4⟩ := hs.tm d s g1
    exact ⟨u, g3, g2.rep h1 u g4⟩
  · have := hs.df
    generalize a.defers = ds at this ⊢
    induction ds with
    | nil => trivial
    | cons d ds ih =>
      obtain ⟨⟨r, k1, k0, k2, k3, k4⟩, k5⟩ := this
      exact ⟨⟨r, k1, k0, fun h => k2 (h3 r h), k3, k4⟩, ih k5⟩
theorem VC.conv [Dr] {c : Code} (E2 : Env) (H2 : Hp) (hc : Conv lb E H E2 H2) (h : VC z P n lb c QT E2 H2) : VC z P n lb c QT E H := by
  intro X0 M a r kb hz hs
  obtain ⟨M2, h1, h2, h3⟩ := hs.conv hc
  have := h X0 M2 a r kb hz h3
  rw [h1] at this
  exact wpIn_mono this fun e a' w' hl => hl.evo h2
theorem VC.loopC [Dr] {c : Code} (I : Nat → Env → Hp → Prop) (m : Nat) (L : Env) (H0 : Hp) (hc : Conv lb E H L H0) (h0 : I m L H0)
    (round : ∀ m L H, I m L H → VC z P n lb c (ExThen (fun E' H' => ∃ m' L' H'', m' < m ∧ I m' L' H'' ∧ Conv lb E' H' L' H'') QT) L H) : VC z P n lb (.loop c) QT E H := by
  intro X0 M a r kb hz hs
  obtain ⟨M0, q1, q2, q3⟩ := hs.conv hc
  refine wp_loop_g (fun m a' w' => ∃ L' H' M', I m L' H' ∧ M'.w = w' ∧ EvoK lb X0 M M' ∧ St n kb L' H' X0 a' M') m ⟨L, H0, M0, h0, q1, q2, q3⟩ fun m a' w' ⟨L', H', M', h1, h2, h3, h4⟩ => ?_
  subst h2
  refine wpIn_mono (round m L' H' h1 X0 M' a' r kb hz h4) fun e a2 w2 hq => ?_
  obtain ⟨E2, H2, M2, k1, k2, k3, k4⟩ := hq
  cases e with
  | normal =>
    obtain ⟨m', L2, H3, j1, j2, j3⟩ := k1
    obtain ⟨M3, g1, g2, g3⟩ := k4.conv j3
    exact ⟨m', j1, L2, H3, M3, j2, g1.trans k2, h3.trans (k3.trans g2), g3⟩
  | _ => exact ⟨E2, H2, M2, k1, k2, h3.trans k3, k4⟩
def lcE (E : Env) : List Nat → Option Env
  | [] => some []
  | d :: ds => match E.get d, lcE E ds with
    | some t, some r => some ((d, t) :: r)
    | _, _ => none
theorem VC.loopS [Dr] {c : Code} {σ : Type} {Lc : Env} (μ : σ → Nat) (R : σ → Prop) (L : σ → Env) (Hs : σ → Hp) (ds : List Nat) (hL : lcE E ds = some Lc) (s : σ) (hc : Conv lb E H (L s ++ Lc) (Hs s)) (h0 : R s)
    (round : ∀ s, R s → VC z P n lb c (ExThen (fun E' H' => ∃ s', μ s' < μ s ∧ R s' ∧ Conv lb E' H' (L s' ++ Lc) (Hs s')) QT) (L s ++ Lc) (Hs s)) : VC z P n lb (.loop c) QT E H := by
  refine VC.loopC (fun m L' H' => ∃ s, m = μ s ∧ R s ∧ L' = L s ++ Lc ∧ H' = Hs s) (μ s) (L s ++ Lc) (Hs s) hc ⟨s, rfl, h0, rfl, rfl⟩ ?_
  rintro m L' H' ⟨s, rfl, h1, rfl, rfl⟩
  refine (round s h1).mono fun e E' H' h => ?_
  cases e with
  | normal => obtain ⟨s', h2, h3, h4⟩ := h; exact ⟨μ s', _, _, h2, ⟨s', rfl, h3, rfl, rfl⟩, h4⟩
  | _ => exact h
theorem VC.loopS2 [Dr] {c : Code} {σ1 : Type} {σ2 : Type} {Lc : Env} (μ : σ1 → σ2 → Nat) (R : σ1 → σ2 → Prop) (L : σ1 → σ2 → Env) (Hs : σ1 → σ2 → Hp) (ds : List Nat) (hL : lcE E ds = some Lc) (s1 : σ1) (s2 : σ2) (hc : Conv lb E H (L s1 s2 ++ Lc) (Hs s1 s2)) (h0 : R s1 s2)
    (round : ∀ s1 s2, R s1 s2 → VC z P n lb c (ExThen (fun E' H' => ∃ t1 t2, μ t1 t2 < μ s1 s2 ∧ R t1 t2 ∧ Conv lb E' H' (L t1 t2 ++ Lc) (Hs t1 t2)) QT) (L s1 s2 ++ Lc) (Hs s1 s2)) : VC z P n lb (.loop c) QT E H :=
  VC.loopS (σ := σ1 × σ2) (fun s => μ s.1 s.2) (fun s => R s.1 s.2) (fun s => L s.1 s.2) (fun s => Hs s.1 s.2) ds hL ⟨s1, s2⟩ hc h0 fun ⟨s1, s2⟩ h => (round s1 s2 h).mono fun e E' H' h => by
    cases e with
    | normal => obtain ⟨t1, t2, h2, h3, h4⟩ := h; exact ⟨⟨t1, t2⟩, h2, h3, h4⟩
    | _ => exact h
theorem VC.loopS3 [Dr] {c : Code} {σ1 : Type} {σ2 : Type} {σ3 : Type} {Lc : Env} (μ : σ1 → σ2 → σ3 → Nat) (R : σ1 → σ2 → σ3 → Prop) (L : σ1 → σ2 → σ3 → Env) (Hs : σ1 → σ2 → σ3 → Hp) (ds : List Nat) (hL : lcE E ds = some Lc) (s1 : σ1) (s2 : σ2) (s3 : σ3) (hc : Conv lb E H (L s1 s2 s3 ++ Lc) (Hs s1 s2 s3)) (h0 : R s1 s2 s3)
    (round : ∀ s1 s2 s3, R s1 s2 s3 → VC z P n lb c (ExThen (fun E' H' => ∃ t1 t2 t3, μ t1 t2 t3 < μ s1 s2 s3 ∧ R t1 t2 t3 ∧ Conv lb E' H' (L t1 t2 t3 ++ Lc) (Hs t1 t2 t3)) QT) (L s1 s2 s3 ++ Lc) (Hs s1 s2 s3)) : VC z P n lb (.loop c) QT E H :=
  VC.loopS (σ := σ1 × σ2 × σ3) (fun s => μ s.1 s.2.1 s.2.2) (fun s => R s.1 s.2.1 s.2.2) (fun s => L s.1 s.2.1 s.2.2) (fun s => Hs s.1 s.2.1 s.2.2) ds hL ⟨s1, s2, s3⟩ hc h0 fun ⟨s1, s2, s3⟩ h => (round s1 s2 s3 h).mono fun e E' H' h => by
    cases e with
    | normal => obtain ⟨t1, t2, t3, h2, h3, h4⟩ := h; exact ⟨⟨t1, t2, t3⟩, h2, h3, h4⟩
    | _ => exact h
theorem VC.loopS7 [Dr] {c : Code} {σ1 : Type} {σ2 : Type} {σ3 : Type} {σ4 : Type} {σ5 : Type} {σ6 : Type} {σ7 : Type} {Lc : Env} (μ : σ1 → σ2 → σ3 → σ4 → σ5 → σ6 → σ7 → Nat) (R : σ1 → σ2 → σ3 → σ4 → σ5 → σ6 → σ7 → Prop) (L : σ1 → σ2 → σ3 → σ4 → σ5 → σ6 → σ7 → Env) (Hs : σ1 → σ2 → σ3 → σ4 → σ5 → σ6 → σ7 → Hp) (ds : List Nat) (hL : lcE E ds = some Lc) (s1 : σ1) (s2 : σ2) (s3 : σ3) (s4 : σ4) (s5 : σ5) (s6 : σ6) (s7 : σ7) (hc : Conv lb E H (L s1 s2 s3 s4 s5 s6 s7 ++ Lc) (Hs s1 s2 s3 s4 s5 s6 s7)) (h0 : R s1 s2 s3 s4 s5 s6 s7)
    (round : ∀ s1 s2 s3 s4 s5 s6 s7, R s1 s2 s3 s4 s5 s6 s7 → VC z P n lb c (ExThen (fun E' H' => ∃ t1 t2 t3 t4 t5 t6 t7, μ t1 t2 t3 t4 t5 t6 t7 < μ s1 s2 s3 s4 s5 s6 s7 ∧ R t1 t2 t3 t4 t5 t6 t7 ∧ Conv lb E' H' (L t1 t2 t3 t4 t5 t6 t7 ++ Lc) (Hs t1 t2 t3 t4 t5 t6 t7)) QT) (L s1 s2 s3 s4 s5 s6 s7 ++ Lc) (Hs s1 s2 s3 s4 s5 s6 s7)) : VC z P n lb (.loop c) QT E H :=
  VC.loopS (σ := σ1 × σ2 × σ3 × σ4 × σ5 × σ6 × σ7) (fun s => μ s.1 s.2.1 s.2.2.1 s.2.2.2.1 s.2.2.2.2.1 s.2.2.2.2.2.1 s.2.2.2.2.2.2) (fun s => R s.1 s.2.1 s.2.2.1 s.2.2.2.1 s.2.2.2.2.1 s.2.2.2.2.2.1 s.2.2.2.2.2.2) (fun s => L s.1 s.2.1 s.2.2.1 s.2.2.2.1 s.2.2.2.2.1 s.2.2.2.2.2.1 s.2.2.2.2.2.2) (fun s => Hs s.1 s.2.1 s.2.2.1 s.2.2.2.1 s.2.2.2.2.1 s.2.2.2.2.2.1 s.2.2.2.2.2.2) ds hL ⟨s1, s2, s3, s4, s5, s6, s7⟩ hc h0 fun ⟨s1, s2, s3, s4, s5, s6, s7⟩ h => (round s1 s2 s3 s4 s5 s6 s7 h).mono fun e E' H' h => by
    cases e with
    | normal => obtain ⟨t1, t2, t3, t4, t5, t6, t7, h2, h3, h4⟩ := h; exact ⟨⟨t1, t2, t3, t4, t5, t6, t7⟩, h2, h3, h4⟩
    | _ => exact h
theorem VC.view [Dr] {c : Code} {Lc : Env} (L : Env) (H2 : Hp) (ds : List Nat) (hL : lcE E ds = some Lc) (hc : Conv lb E H (L ++ Lc) H2) (k : VC z P n lb c QT (L ++ Lc) H2) : VC z P n lb c QT E H := VC.conv _ _ hc k
theorem VC.loopH [Dr] {c : Code} {σ : Type} {Lc : Env} (μ : σ → Nat) (R : σ → Hp → Prop) (L : σ → Env) (ds : List Nat) (hL : lcE E ds = some Lc) (s : σ) (hl : subL (L s ++ Lc) E) (h0 : R s H)
    (round : ∀ s H, R s H → VC z P n lb c (ExThen (fun E' H' => ∃ s', μ s' < μ s ∧ R s' H' ∧ subL (L s' ++ Lc) E') QT) (L s ++ Lc) H) : VC z P n lb (.loop c) QT E H := by
  refine VC.loop (fun m L' H' => ∃ s, m = μ s ∧ R s H' ∧ L' = L s ++ Lc) (μ s) (L s ++ Lc) hl ⟨s, rfl, h0, rfl⟩ ?_
  rintro m L' H' ⟨s, rfl, h1, rfl⟩
  refine (round s H' h1).mono fun e E' H' h => ?_
  cases e with
  | normal => obtain ⟨s', h2, h3, h4⟩ := h; exact ⟨μ s', _, h2, ⟨s', rfl, h3, rfl⟩, h4⟩
  | _ => exact h
theorem VC.loopH2 [Dr] {c : Code} {σ1 : Type} {σ2 : Type} {Lc : Env} (μ : σ1 → σ2 → Nat) (R : σ1 → σ2 → Hp → Prop) (L : σ1 → σ2 → Env) (ds : List Nat) (hL : lcE E ds = some Lc) (s1 : σ1) (s2 : σ2) (hl : subL (L s1 s2 ++ Lc) E) (h0 : R s1 s2 H)
    (round : ∀ s1 s2 H, R s1 s2 H → VC z P n lb c (ExThen (fun E' H' => ∃ t1 t2, μ t1 t2 < μ s1 s2 ∧ R t1 t2 H' ∧ subL (L t1 t2 ++ Lc) E') QT) (L s1 s2 ++ Lc) H) : VC z P n lb (.loop c) QT E H :=
  VC.loopH (σ := σ1 × σ2) (fun s => μ s.1 s.2) (fun s => R s.1 s.2) (fun s => L s.1 s.2) ds hL ⟨s1, s2⟩ hl h0 fun ⟨s1, s2⟩ H h => (round s1 s2 H h).mono fun e E' H' h => by
    cases e with
    | normal => obtain ⟨t1, t2, h2, h3, h4⟩ := h; exact ⟨⟨t1, t2⟩, h2, h3, h4⟩
    | _ => exact h
theorem VC.loopH3 [Dr] {c : Code} {σ1 : Type} {σ2 : Type} {σ3 : Type} {Lc : Env} (μ : σ1 → σ2 → σ3 → Nat) (R : σ1 → σ2 → σ3 → Hp → Prop) (L : σ1 → σ2 → σ3 → Env) (ds : List Nat) (hL : lcE E ds = some Lc) (s1 : σ1) (s2 : σ2) (s3 : σ3) (hl : subL (L s1 s2 s3 ++ Lc) E) (h0 : R s1 s2 s3 H)
    (round : ∀ s1 s2 s3 H, R s1 s2 s3 H → VC z P n lb c (ExThen (fun E' H' => ∃ t1 t2 t3, μ t1 t2 t3 < μ s1 s2 s3 ∧ R t1 t2 t3 H' ∧ subL (L t1 t2 t3 ++ Lc) E') QT) (L s1 s2 s3 ++ Lc) H) : VC z P n lb (.loop c) QT E H :=
  VC.loopH (σ := σ1 × σ2 × σ3) (fun s => μ s.1 s.2.1 s.2.2) (fun s => R s.1 s.2.1 s.2.2) (fun s => L s.1 s.2.1 s.2.2) ds hL ⟨s1, s2, s3⟩ hl h0 fun ⟨s1, s2, s3⟩ H h => (round s1 s2 s3 H h).mono fun e E' H' h => by
    cases e with
    | normal => obtain ⟨t1, t2, t3, h2, h3, h4⟩ := h; exact ⟨⟨t1, t2, t3⟩, h2, h3, h4⟩
    | _ => exact h
theorem subL_cons {L E : Env} {d : Nat} {t : T} (h : E.get d = some t) (k : subL L E) : subL ((d, t) :: L) E := ⟨h, k⟩
theorem subL_app : ∀ {a b E : Env}, subL a E → subL b E → subL (a ++ b) E
  | [], _, _, _, k => k
  | (d, t) :: a, _, _, ⟨h1, h2⟩, k => ⟨h1, subL_app h2 k⟩
theorem lookH_new (H : Hp) (cs : List T) : lookH (H ++ [.c cs]) H.length = some cs := by rw [lookH_c, blkH_push, if_pos rfl]
theorem lookH_old {H : Hp} {x : Blk} {b : Nat} {cs : List T} (h : lookH H b = some cs) : lookH (H ++ [x]) b = some cs := by
  have := lookH_lt h
  rw [lookH_c] at h ⊢
  rw [blkH_push, if_neg (by omega)]; exact h
theorem setH_new : ∀ (H : Hp) (x y : Blk), setH (H ++ [x]) H.length y = H ++ [y]
  | [], _, _ => rfl
  | _ :: r, x, y => by simp only [List.cons_append, List.length_cons, setH, setH_new r x y]
theorem YieldT.mono [Dr] {b : Nat} {args : List T} {Q Q' : T → Hp → Prop} (h : YieldT P b args H Q) (k : ∀ t H', Q t H' → Q' t H') : YieldT P b args H Q' := by
  intro X0 M B O us h1 h2 h3
  obtain ⟨f', tmps, asx, bd, y1, y2⟩ := h X0 M B O us h1 h2 h3
  exact ⟨f', tmps, asx, bd, y1, fun r => (y2 r).mono fun e w' ⟨u, t, H', M', k1, k2, k3, k4⟩ => ⟨u, t, H', M', k1, k2, k _ _ k3, k4⟩⟩
theorem CallP.intro2 [Dr] {f : FuncId} {args : List T} {r : T} (ha : T.pureL args = true) (hr : r.pure = true) (h : CallT P f args [] (fun t H' => Cv (vwL H' []) t r)) : CallP P f args r := by
  refine ⟨ha, hr, h.1, fun X0 M us hS hrep => (h.2 X0 M us hS hrep).mono ?_⟩
  rintro e w' ⟨u, t, H', M', rfl, rfl, h3, h4, h5, h6⟩
  obtain ⟨k1, k2, k3⟩ := view_ok (ρ := []) (H2 := []) h5 rfl rfl trivial
  refine ⟨u, r, [], viewM M' X0 [] [], rfl, rfl, rfl, ⟨fun b p hp => ?_, fun B hB hx h => h4.nox B hB hx (k3 B h), h4.keep, h4.shape, h4.os, h4.tape, h4.output, h4.size⟩, k2, h3.rep k1 u h6⟩
  have := hS.dom b (by simp)
  rw [this] at hp; cases hp
end
end
section
open Go.RowKit
abbrev I64 (n : Int) : T := .v (.int .i64 n)
abbrev U8 (n : Int) : T := .v (.int .u8 n)
abbrev BL (b : Bool) : T := .v (.bool b)
abbrev NIL : T := .v (.slice none 0 0)
structure Cd (α : Type) where
  sz : Nat
  cells : α → List T
  len : ∀ a, (cells a).length = sz
  pure : ∀ a, T.pureL (cells a) = true
  cb : ∀ a, (cells a).all cellB = true
  pos : 0 < sz
def cI : Cd Int := ⟨1, fun n => [I64 n], fun _ => rfl, fun _ => rfl, fun _ => rfl, by decide⟩
def cU : Cd Int := ⟨1, fun n => [U8 n], fun _ => rfl, fun _ => rfl, fun _ => rfl, by decide⟩
theorem cI_sz : cI.sz = 1 := rfl
theorem cU_sz : cU.sz = 1 := rfl
section
variable {α : Type} (c : Cd α)
def encL (l : List α) : List T := l.flatMap c.cells
theorem encL_cons (a : α) (l : List α) : encL c (a :: l) = c.cells a ++ encL c l := rfl
theorem encL_append (l m : List α) : encL c (l ++ m) = encL c l ++ encL c m := by simp [encL]
theorem encL_len : ∀ l : List α, (encL c l).length = l.length * c.sz
  | [] => by simp [encL]
  | a :: l => by rw [encL_cons, List.length_append, c.len, encL_len l, List.length_cons, Nat.add_mul]; omega
theorem encL_pure : ∀ l : List α, T.pureL (encL c l) = true
  | [] => rfl
  | a :: l => by
    rw [encL_cons]
    have h1 := c.pure a
    have h2 := encL_pure l
    generalize c.cells a = x at h1
    induction x with
    | nil => exact h2
    | cons t x ih => simp only [T.pureL, Bool.and_eq_true, List.cons_append] at h1 ⊢; exact ⟨h1.1, ih h1.2⟩
theorem pureL_app : ∀ (a b : List T), T.pureL (a ++ b) = (T.pureL a && T.pureL b)
  | [], b => by simp [T.pureL]
  | t :: a, b => by simp only [List.cons_append, T.pureL, pureL_app a b, Bool.and_assoc]
theorem Cv.slcE {v : Vw} {b b' o n n' z : Nat} {c c' : Option Nat} (h : v.R b' b) (hn : n = n') (hc : c' = c ∨ c' = none) : Cv v (.slc b o n z c) (.slc b' o n' z c') := by subst hn; exact .slc h hc
theorem encL_cb (l : List α) : (encL c l).all cellB = true := by
  rw [List.all_eq_true]
  intro t ht
  obtain ⟨a, -, h2⟩ := List.mem_flatMap.1 ht
  exact List.all_eq_true.1 (c.cb a) t h2
theorem encL_get : ∀ (l : List α) (m k : Nat) (a : α), l[m]? = some a → k < c.sz → (encL c l)[m * c.sz + k]? = (c.cells a)[k]?
  | [], m, k, a, h, _ => by simp at h
  | x :: l, 0, k, a, h, hk => by
    simp at h; subst h
    rw [encL_cons, Nat.zero_mul, Nat.zero_add, List.getElem?_append_left (by rw [c.len]; exact hk)]
  | x :: l, m + 1, k, a, h, hk => by
    rw [encL_cons, List.getElem?_append_right (by rw [c.len, Nat.add_mul]; omega), c.len, show (m + 1) * c.sz + k - c.sz = m * c.sz + k from by rw [Nat.add_mul]; omega]
    exact encL_get l m k a (by simpa using h) hk
theorem encL_drop : ∀ (l : List α) (m : Nat), (encL c l).drop (m * c.sz) = encL c (l.drop m)
  | [], m => by simp [encL]
  | x :: l, 0 => by simp
  | x :: l, m + 1 => by
    rw [encL_cons, List.drop_succ_cons, ← encL_drop l m, Nat.add_mul, Nat.one_mul, Nat.add_comm, ← List.drop_drop, List.drop_append_of_le_length (by rw [c.len]; exact Nat.le_refl _)]
    rw [List.drop_of_length_le (i := c.sz) (l := c.cells x) (by rw [c.len]; exact Nat.le_refl _), List.nil_append]
theorem encL_take : ∀ (l : List α) (m : Nat), (encL c l).take (m * c.sz) = encL c (l.take m)
  | [], m => by simp [encL]
  | x :: l, 0 => by simp [encL]
  | x :: l, m + 1 => by
    rw [encL_cons, List.take_succ_cons, encL_cons, ← encL_take l m, Nat.add_mul, Nat.one_mul, Nat.add_comm, List.take_append, c.len]
    rw [List.take_of_length_le (by rw [c.len]; omega), show c.sz + m * c.sz - c.sz = m * c.sz from by omega]
theorem encL_part {ti : TyI} {l : List α} {m off : Nat} {a : α} {v : T} (hm : l[m]? = some a) (ho : off + ti.sz ≤ c.sz) (hz : ti.k.agg = true ∨ off < c.sz) (hv : partT ti (c.cells a) off = some v) : partT ti (encL c l) (m * c.sz + off) = some v := by
  unfold partT at hv ⊢
  by_cases hag : ti.k.agg = true
  · rw [if_pos hag] at hv ⊢
    rw [c.len, if_pos ho] at hv
    have hml : m < l.length := (List.getElem?_eq_some_iff.1 hm).1
    have hle : (m + 1) * c.sz ≤ l.length * c.sz := Nat.mul_le_mul_right _ hml
    rw [if_pos (by rw [encL_len]; rw [Nat.add_mul] at hle; omega)]
    rw [← hv]
    congr 2
    rw [← List.drop_drop, encL_drop]
    have hd : l.drop m = a :: l.drop (m + 1) := by
      obtain ⟨h1, h2⟩ := List.getElem?_eq_some_iff.1 hm
      rw [← h2]; exact List.drop_eq_getElem_cons h1
    rw [hd, encL_cons, List.drop_append_of_le_length (by rw [c.len]; omega), List.take_append_of_le_length (by rw [List.length_drop, c.len]; omega)]
  · rw [if_neg hag] at hv ⊢
    rw [encL_get c l m off a hm (hz.resolve_left hag)]; exact hv
theorem encL_partA {ti : TyI} {l : List α} {tl : List T} {m off : Nat} {a : α} {v : T} (hm : l[m]? = some a) (ho : off + ti.sz ≤ c.sz) (hz : ti.k.agg = true ∨ off < c.sz) (hv : partT ti (c.cells a) off = some v) : partT ti (encL c l ++ tl) (m * c.sz + off) = some v := by
  have h := encL_part c hm ho hz hv
  have hml : m < l.length := (List.getElem?_eq_some_iff.1 hm).1
  have hle : (m + 1) * c.sz ≤ l.length * c.sz := Nat.mul_le_mul_right _ hml
  rw [Nat.add_mul] at hle
  unfold partT at h ⊢
  by_cases hag : ti.k.agg = true
  · rw [if_pos hag] at h ⊢
    rw [encL_len, if_pos (by omega)] at h
    rw [List.length_append, encL_len, if_pos (by omega), ← h, List.drop_append_of_le_length (by rw [encL_len]; omega), List.take_append_of_le_length (by rw [List.length_drop, encL_len]; omega)]
  · rw [if_neg hag] at h ⊢
    rw [List.getElem?_append_left (by have := hz.resolve_left hag; rw [encL_len]; omega)]; exact h
theorem encL_partA0 {ti : TyI} {l : List α} {tl : List T} {m : Nat} {a : α} {v : T} (hm : l[m]? = some a) (ho : ti.sz ≤ c.sz) (hv : partT ti (c.cells a) 0 = some v) : partT ti (encL c l ++ tl) (m * c.sz) = some v :=
  encL_partA c (off := 0) hm (by omega) (.inr c.pos) hv
theorem encL_part0 {ti : TyI} {l : List α} {m : Nat} {a : α} {v : T} (hm : l[m]? = some a) (ho : ti.sz ≤ c.sz) (hv : partT ti (c.cells a) 0 = some v) : partT ti (encL c l) (m * c.sz) = some v :=
  encL_part c (off := 0) hm (by omega) (.inr c.pos) hv
theorem encL_put : ∀ (l : List α) (m off : Nat) (a b : α) (xs : List T), l[m]? = some a → off + xs.length ≤ c.sz → putL (c.cells a) off xs = c.cells b → putL (encL c l) (m * c.sz + off) xs = encL c (l.set m b)
  | [], m, off, a, b, xs, h, _, _ => by simp at h
  | x :: l, 0, off, a, b, xs, h, ho, hp => by
    simp at h; subst h
    rw [List.set_cons_zero, encL_cons, encL_cons, ← hp]
    unfold putL
    rw [Nat.zero_mul, Nat.zero_add, List.take_append_of_le_length (by rw [c.len]; omega), List.drop_append_of_le_length (by rw [c.len]; omega)]
    simp [List.append_assoc]
  | x :: l, m + 1, off, a, b, xs, h, ho, hp => by
    rw [List.set_cons_succ, encL_cons, encL_cons, ← encL_put l m off a b xs (by simpa using h) ho hp]
    unfold putL
    rw [show (m + 1) * c.sz + off = c.sz + (m * c.sz + off) from by rw [Nat.add_mul]; omega]
    rw [List.take_append, c.len, List.take_of_length_le (by rw [c.len]; omega), show c.sz + (m * c.sz + off) - c.sz = m * c.sz + off from by omega]
    rw [List.drop_append, c.len, List.drop_of_length_le (by rw [c.len]; omega), show c.sz + (m * c.sz + off) + xs.length - c.sz = m * c.sz + off + xs.length from by omega]
    simp [List.append_assoc]
end
theorem getE {α : Type} [Inhabited α] {l : List α} {m : Nat} (h : m < l.length) : l[m]? = some l[m]! := by rw [getElem!_pos l m h]; exact List.getElem?_eq_getElem h
section
variable {q : Bool} {P : Program} {tab : Tab} {im : List Nat} {ds : List (Option Nat)} {l : List Oper} {E : Env} {H : Hp} {K : Env → Hp → Prop} {d : Nat} {ty : TypeId} {pos : String} {after : Array Edge}
theorem wrap_in {n : Int} (h : -9223372036854775808 ≤ n ∧ n ≤ 9223372036854775807) : IntKind.i64.wrap n = n := by rw [IntKind.wrap]; simp [IntKind.bits, IntKind.signed]; omega
theorem VX.sub [Dr] {x y : Operand} {t t2 : Nat} {a b : Int} (hx : E.opd x = some (.v (.int .i64 a))) (hy : E.opd y = some (.v (.int .i64 b))) (h : -9223372036854775808 ≤ a - b ∧ a - b ≤ 9223372036854775807) (k : VX q P tab im ds l ((d, .v (.int .i64 (a - b))) :: E) H K) : VX q P tab im ds (⟨some d, .binOp .sub t x y t2, ty, pos, after, none⟩ :: l) E H K :=
  VX.meek (t := .v (.int .i64 (a - b))) (by simp only [opM, hx, hy, mBin, binInt, if_true, Option.map_some, wrap_in h]) k
theorem VX.add [Dr] {x y : Operand} {t t2 : Nat} {a b : Int} (hx : E.opd x = some (.v (.int .i64 a))) (hy : E.opd y = some (.v (.int .i64 b))) (h : -9223372036854775808 ≤ a + b ∧ a + b ≤ 9223372036854775807) (k : VX q P tab im ds l ((d, .v (.int .i64 (a + b))) :: E) H K) : VX q P tab im ds (⟨some d, .binOp .add t x y t2, ty, pos, after, none⟩ :: l) E H K :=
  VX.meek (t := .v (.int .i64 (a + b))) (by simp only [opM, hx, hy, mBin, binInt, if_true, Option.map_some, wrap_in h]) k
theorem VX.mul [Dr] {x y : Operand} {t t2 : Nat} {a b : Int} (hx : E.opd x = some (.v (.int .i64 a))) (hy : E.opd y = some (.v (.int .i64 b))) (h : -9223372036854775808 ≤ a * b ∧ a * b ≤ 9223372036854775807) (k : VX q P tab im ds l ((d, .v (.int .i64 (a * b))) :: E) H K) : VX q P tab im ds (⟨some d, .binOp .mul t x y t2, ty, pos, after, none⟩ :: l) E H K :=
  VX.meek (t := .v (.int .i64 (a * b))) (by simp only [opM, hx, hy, mBin, binInt, if_true, Option.map_some, wrap_in h]) k
theorem mPick_and {ρ : EnvF} {look : Look} {nx : Nat} {c a f : Operand} {b v : Bool} (hc : ρ c = some (.v (.bool b))) (hf : ρ f = some (.v (.bool false))) (ha : b = true → ρ a = some (.v (.bool v))) : opM tab look nx ρ (.pick c a f) = some (.v (.bool (b && v)), none) := by
  cases b
  · simp only [opM, hc, hf]
    cases ρ a with
    | none => rfl
    | some t => cases t <;> first | rfl | (rename_i x; cases x <;> rfl)
  · simp only [opM, hc, ha rfl, hf, if_true, Bool.true_and]
theorem mPick_or {ρ : EnvF} {look : Look} {nx : Nat} {c a f : Operand} {b v : Bool} (hc : ρ c = some (.v (.bool b))) (hf : ρ f = some (.v (.bool true))) (ha : b = false → ρ a = some (.v (.bool v))) : opM tab look nx ρ (.pick c f a) = some (.v (.bool (b || v)), none) := by
  cases b
  · simp only [opM, hc, ha rfl, hf, Bool.false_or]; rfl
  · simp only [opM, hc, hf, Bool.true_or]
    cases ρ a with
    | none => rfl
    | some t => cases t <;> first | rfl | (rename_i x; cases x <;> rfl)
theorem VX.pickA [Dr] {c a : Operand} {b v : Bool} (hc : E.opd c = some (.v (.bool b))) (ha : b = true → E.opd a = some (.v (.bool v))) (k : VX q P tab im ds l ((d, .v (.bool (b && v))) :: E) H K) : VX q P tab im ds (⟨some d, .pick c a (.const (.bool false)), ty, pos, after, none⟩ :: l) E H K :=
  VX.meek (mPick_and hc rfl ha) k
theorem VX.pickO [Dr] {c a : Operand} {b v : Bool} (hc : E.opd c = some (.v (.bool b))) (ha : b = false → E.opd a = some (.v (.bool v))) (k : VX q P tab im ds l ((d, .v (.bool (b || v))) :: E) H K) : VX q P tab im ds (⟨some d, .pick c (.const (.bool true)) a, ty, pos, after, none⟩ :: l) E H K :=
  VX.meek (mPick_or hc rfl ha) k
theorem VX.guardT [Dr] {dst : Option Nat} {op : Op} {j g : Nat} {want b : Bool} (hj : ds[j]? = some (some g)) (hb : E.get g = some (.v (.bool b))) (he : b = want) (h1 : VX q P tab im ds (⟨dst, op, ty, pos, after, none⟩ :: l) E H K) : VX q P tab im ds (⟨dst, op, ty, pos, after, some (j, want)⟩ :: l) E H K :=
  VX.guard hj hb (fun _ => h1) (fun h => by subst he; cases b <;> cases h)
theorem VX.guardF [Dr] {dst : Option Nat} {op : Op} {j g : Nat} {want b : Bool} (hj : ds[j]? = some (some g)) (hb : E.get g = some (.v (.bool b))) (he : b = !want) (h0 : VX q P tab im ds l (putC E dst (.v undef)) H K) : VX q P tab im ds (⟨dst, op, ty, pos, after, some (j, want)⟩ :: l) E H K :=
  VX.guard hj hb (fun h => by subst h; cases b <;> cases he) (fun _ => h0)
theorem VX.idxI [Dr] {t e m : Nat} {x ix : Operand} {i j : TyI} {cs : List T} {n : Nat} {c : Option Nat} {k : IntKind} {z : Int} (hT : tab t = some i) (hk : i.k = .sl e) (hj : tab e = some j) (hx : E.opd x = some (.islc cs n c)) (hi : E.opd ix = some (.v (.int k z))) (hz : z = (m : Int)) (hm : m < n)
    (kk : VX q P tab im ds l ((d, .iptr cs (m * j.sz)) :: E) H K) : VX q P tab im ds (⟨some d, .indexAddr t x ix, ty, pos, after, none⟩ :: l) E H K := by
  subst hz
  exact VX.meek (by simp only [opM, hx, hi, mIndexAddr, hT, hk, hj]; rw [if_pos ⟨by omega, by omega⟩]; rfl) kk
theorem VX.idxO [Dr] {t e m b o z0 : Nat} {x ix : Operand} {i j : TyI} {n : Nat} {c : Option Nat} {k : IntKind} {z : Int} (hT : tab t = some i) (hk : i.k = .sl e) (hj : tab e = some j) (hx : E.opd x = some (.slc b o n z0 c)) (hi : E.opd ix = some (.v (.int k z))) (hs : j.sz = z0) (hz : z = (m : Int)) (hm : m < n)
    (kk : VX q P tab im ds l ((d, .ptr b (o + m * z0)) :: E) H K) : VX q P tab im ds (⟨some d, .indexAddr t x ix, ty, pos, after, none⟩ :: l) E H K := by
  subst hz
  exact VX.meek (by simp only [opM, hx, hi, mIndexAddr, hT, hk, hj]; rw [if_pos ⟨hs, by omega, by omega⟩]; rfl) kk
theorem VX.idxO0 [Dr] {t e m b z0 : Nat} {x ix : Operand} {i j : TyI} {n : Nat} {c : Option Nat} {k : IntKind} {z : Int} (hT : tab t = some i) (hk : i.k = .sl e) (hj : tab e = some j) (hx : E.opd x = some (.slc b 0 n z0 c)) (hi : E.opd ix = some (.v (.int k z))) (hs : j.sz = z0) (hz : z = (m : Int)) (hm : m < n)
    (kk : VX q P tab im ds l ((d, .ptr b (m * z0)) :: E) H K) : VX q P tab im ds (⟨some d, .indexAddr t x ix, ty, pos, after, none⟩ :: l) E H K := VX.idxO hT hk hj hx hi hs hz hm (by rw [Nat.zero_add]; exact kk)
theorem VX.loadI [Dr] {t : Nat} {a : Operand} {i : TyI} {cs : List T} {o : Nat} {v : T} (hT : tab t = some i) (ha : E.opd a = some (.iptr cs o)) (hp : partT i cs o = some v) (k : VX q P tab im ds l ((d, v) :: E) H K) : VX q P tab im ds (⟨some d, .load t a, ty, pos, after, none⟩ :: l) E H K :=
  VX.meek (by simp only [opM, ha, mLoad, hT, hp]) k
theorem VX.loadP [Dr] {t b : Nat} {a : Operand} {i : TyI} {cs : List T} {o : Nat} {v : T} (hT : tab t = some i) (ha : E.opd a = some (.ptr b o)) (hc : lookH H b = some cs) (hp : partT i cs o = some v) (k : VX q P tab im ds l ((d, v) :: E) H K) : VX q P tab im ds (⟨some d, .load t a, ty, pos, after, none⟩ :: l) E H K :=
  VX.meek (by simp only [opM, ha, mLoad, hT, hc, hp]) k
theorem VX.slcO [Dr] {t e b o n z p r : Nat} {x : Operand} {lo hi : Option Operand} {L Hh : Option Int} {i j : TyI} {c : Option Nat} (hT : tab t = some i) (hk : i.k = .sl e) (hj : tab e = some j) (hx : E.opd x = some (.slc b o n z c)) (hz : j.sz = z) (hl : optI lo E.opd = some L) (hh : optI hi E.opd = some Hh) (hm : (none : Option Operand) = none)
    (hp : L.getD 0 = (p : Int)) (hr : Hh.getD n = (r : Int)) (h1 : p ≤ r) (h2 : r ≤ n) (h3 : p = 0 ∨ p < n) (k : VX q P tab im ds l ((d, .slc b (o + p * z) (r - p) z (c.map fun q => q - p)) :: E) H K) : VX q P tab im ds (⟨some d, .slice t x lo hi none, ty, pos, after, none⟩ :: l) E H K := by
  refine VX.meek (t := .slc b (o + p * z) (r - p) z (c.map fun q => q - p)) ?_ k
  simp only [opM, hx, hl, hh, mSlice, hT, hk, hj, show optI none E.opd = some none from rfl]
  rw [if_pos hz, hp, hr, if_pos ⟨by omega, by omega, by omega⟩, if_pos (by omega)]
  rw [Int.toNat_natCast, show ((r : Int) - (p : Int)).toNat = r - p from by omega]
theorem VX.slcI [Dr] {t e n p r : Nat} {x : Operand} {lo hi : Option Operand} {L Hh : Option Int} {i j : TyI} {cs : List T} {c : Option Nat} (hT : tab t = some i) (hk : i.k = .sl e) (hj : tab e = some j) (hx : E.opd x = some (.islc cs n c)) (hl : optI lo E.opd = some L) (hh : optI hi E.opd = some Hh) (hm : (none : Option Operand) = none)
    (hp : L.getD 0 = (p : Int)) (hr : Hh.getD n = (r : Int)) (h1 : p ≤ r) (h2 : r ≤ n) (h3 : p = 0 ∨ p < n) (k : VX q P tab im ds l ((d, .islc (cs.drop (p * j.sz)) (r - p) (c.map fun q => q - p)) :: E) H K) : VX q P tab im ds (⟨some d, .slice t x lo hi none, ty, pos, after, none⟩ :: l) E H K := by
  refine VX.meek (t := .islc (cs.drop (p * j.sz)) (r - p) (c.map fun q => q - p)) ?_ k
  simp only [opM, hx, hl, hh, mSlice, hT, hk, hj, show optI none E.opd = some none from rfl]
  rw [hp, hr, if_pos ⟨by omega, by omega, by omega⟩, if_pos (by omega)]
  rw [Int.toNat_natCast, show ((r : Int) - (p : Int)).toNat = r - p from by omega]
theorem cap_sub0 (c : Option Nat) : (c.map fun q => q - 0) = c := by cases c <;> rfl
theorem VX.slcO0 [Dr] {t e b o n z r : Nat} {x : Operand} {hi : Option Operand} {Hh : Option Int} {i j : TyI} {c : Option Nat} (hT : tab t = some i) (hk : i.k = .sl e) (hj : tab e = some j) (hx : E.opd x = some (.slc b o n z c)) (hz : j.sz = z) (hh : optI hi E.opd = some Hh)
    (hr : Hh.getD n = (r : Int)) (h2 : r ≤ n) (k : VX q P tab im ds l ((d, .slc b o r z c) :: E) H K) : VX q P tab im ds (⟨some d, .slice t x none hi none, ty, pos, after, none⟩ :: l) E H K :=
  VX.slcO (p := 0) (L := none) hT hk hj hx hz rfl hh rfl rfl hr (by omega) h2 (.inl rfl) (by rw [cap_sub0, Nat.zero_mul, Nat.add_zero, Nat.sub_zero]; exact k)
theorem VX.slcI0 [Dr] {t e n r : Nat} {x : Operand} {hi : Option Operand} {Hh : Option Int} {i j : TyI} {cs : List T} {c : Option Nat} (hT : tab t = some i) (hk : i.k = .sl e) (hj : tab e = some j) (hx : E.opd x = some (.islc cs n c)) (hh : optI hi E.opd = some Hh)
    (hr : Hh.getD n = (r : Int)) (h2 : r ≤ n) (k : VX q P tab im ds l ((d, .islc cs r c) :: E) H K) : VX q P tab im ds (⟨some d, .slice t x none hi none, ty, pos, after, none⟩ :: l) E H K :=
  VX.slcI (p := 0) (L := none) hT hk hj hx rfl hh rfl rfl hr (by omega) h2 (.inl rfl) (by rw [cap_sub0, Nat.zero_mul, List.drop_zero, Nat.sub_zero]; exact k)
theorem VX.idxS [Dr] {t m : Nat} {x ix : Operand} {i : TyI} {s : ByteArray} {k : IntKind} {z : Int} {b : UInt8} (hT : tab t = some i) (hk : i.k = .str) (hx : E.opd x = some (.v (.string s))) (hi : E.opd ix = some (.v (.int k z))) (hz : z = (m : Int)) (hb : s[m]? = some b)
    (kk : VX q P tab im ds l ((d, .v (.int .u8 b.toNat)) :: E) H K) : VX q P tab im ds (⟨some d, .index t x ix, ty, pos, after, none⟩ :: l) E H K := by
  subst hz
  exact VX.meek (by simp only [opM, hx, hi, mIndex, hT, hk, Int.natCast_nonneg, if_true, Int.toNat_natCast, hb]) kk
end
/- weaker arguments -/
theorem wkL_cons {t u : T} {ts us : List T} (h : wk t u) (k : wkL ts us) : wkL (t :: ts) (u :: us) := ⟨u, us, rfl, h, k⟩
theorem wk_islc {a : List T} {n : Nat} {c : Option Nat} : wk (.islc a n c) (.islc a n none) := ⟨a, .inr rfl, wkL_refl a⟩
theorem wk_nil : wk (.v (.slice none 0 0)) (.islc [] 0 none) := .inr ⟨rfl, .inl rfl⟩
theorem wk_agg {a b : List T} (h : wkL a b) : wk (.agg a) (.agg b) := ⟨b, rfl, h⟩
mutual
def T.scal : T → Bool
  | .v _ => true
  | .agg cs => T.scalL cs
  | .tup cs => T.scalL cs
  | _ => false
def T.scalL : List T → Bool
  | [] => true
  | t :: ts => T.scal t && T.scalL ts
end
mutual
theorem Rep.scal {M M' : Mp} : ∀ (t : T) (u : Value), t.scal = true → Rep M t u → Rep M' t u
  | .v _, _, _, r => r
  | .agg cs, _, p, ⟨us, h1, h2⟩ => ⟨us, h1, RepL.scal cs us (by simpa only [T.scal] using p) h2⟩
  | .tup cs, _, p, ⟨us, h1, h2⟩ => ⟨us, h1, RepL.scal cs us (by simpa only [T.scal] using p) h2⟩
  | .clo _ _ _, _, p, _ => by simp [T.scal] at p
  | .ptr _ _, _, p, _ => by simp [T.scal] at p
  | .slc _ _ _ _ _, _, p, _ => by simp [T.scal] at p
  | .iptr _ _, _, p, _ => by simp [T.scal] at p
  | .islc _ _ _, _, p, _ => by simp [T.scal] at p
  | .yl _, _, p, _ => by simp [T.scal] at p
  | .mp _ _, _, p, _ => by simp [T.scal] at p
  | .om _, _, p, _ => by simp [T.scal] at p
theorem RepL.scal {M M' : Mp} : ∀ (ts : List T) (us : List Value), T.scalL ts = true → RepL M ts us → RepL M' ts us
  | [], _, _, r => r
  | t :: ts, _, p, ⟨u, r, h1, h2, h3⟩ => by
    simp only [T.scalL, Bool.and_eq_true] at p
    exact ⟨u, r, h1, Rep.scal t u p.1 h2, RepL.scal ts r p.2 h3⟩
end
theorem CallP.look [Dr] {P : Program} {f : FuncId} {args asx : List T} {r : T} {H : Hp} (h : CallP P f asx r) (hr : r.scal = true) (hv : CvL (vwL H []) args asx) : CallT P f args H (fun t H' => t = r ∧ H' = H) := by
  refine ⟨h.2.2.1, fun X0 M us hS hrep => ?_⟩
  obtain ⟨k1, k2, k3⟩ := view_ok (ρ := []) (H2 := []) hS rfl rfl trivial
  refine (h.run X0 (viewM M X0 [] []) us k2.bnd k2.glo (hv.repL k1 us hrep)).mono ?_
  rintro e w' ⟨u, rfl, q1, q2, q3⟩
  have hE : Evo X0 M ⟨M.β, M.X, w'⟩ := ⟨fun _ _ hp => hp, fun _ _ hx => hx, fun B hB _ => q3 B hB, q1.shape, q1.os, q1.tape, q1.output, q1.size⟩
  exact ⟨u, r, H, _, rfl, rfl, ⟨rfl, rfl⟩, hE, hS.world hE q3, Rep.scal _ _ hr q2⟩
section
variable {P : Program} {tab : Tab} {im : List Nat} {ds : List (Option Nat)} {l : List Oper} {E : Env} {H : Hp} {K : Env → Hp → Prop}
theorem VX.callB [Dr] {d : Nat} {ty : TypeId} {pos : String} {after : Array Edge} {f : Operand} {args : Array Operand} {ats : Array TypeId} {g : FuncId} {fs cs ts asx : List T} {r : T} (hf : E.opd f = some (.clo g fs cs)) (ha : optL E.opd args.toList = some ts)
    (hc : CallP P g asx r) (hr : r.scal = true) (hv : CvL (vwL H []) (fs ++ ts ++ cs) asx) (k : VX false P tab im ds l ((d, r) :: E) H K) : VX false P tab im ds (⟨some d, .call ⟨.value f, args, ats⟩, ty, pos, after, none⟩ :: l) E H K :=
  VX.callT hf ha ((hc.look hr hv).mono fun t H' ⟨h1, h2⟩ => by subst h1 h2; exact k)
theorem VX.clearO [Dr] {dd : Option Nat} {ty : TypeId} {pos : String} {after : Array Edge} {t e b o n z : Nat} {x : Operand} {i j : TyI} {c : Option Nat} {cs : List T} (hT : tab t = some i) (hk : i.k = .sl e) (hj : tab e = some j) (hx : E.opd x = some (.slc b o n z c)) (hc : lookH H b = some cs) (hz : z = j.sz) (h1 : o + n * z ≤ cs.length) (h2 : j.zero.all cellB = true)
    (k : VX false P tab im ds l (putC E dd (.tup [])) (setH H b (.c (putL cs o (zeros n j.zero)))) K) : VX false P tab im ds (⟨dd, .call ⟨.builtin .clear, #[x], #[t]⟩, ty, pos, after, none⟩ :: l) E H K :=
  VX.clear hx (by simp only [mClear, hT, hk, hj, hc]; rw [if_pos ⟨hz, h1, h2⟩]) k
theorem VX.mkS [Dr] {d : Nat} {ty : TypeId} {pos : String} {after : Array Edge} {t e a b : Nat} {x y : Operand} {i j : TyI} {n m : Int} (hi : imB im (some d) = false) (hT : tab t = some i) (hk : i.k = .sl e) (hj : tab e = some j) (hx : E.opd x = some (.v (.int .i64 n))) (hy : E.opd y = some (.v (.int .i64 m))) (hn : n = (a : Int)) (hm : m = (b : Int)) (h1 : a ≤ b) (h2 : b ≤ 2 ^ 47) (h3 : j.by_ * b ≤ 2 ^ 48)
    (k : VX false P tab im ds l ((d, .slc H.length 0 a j.sz (some b)) :: E) (H ++ [.c (zeros b j.zero)]) K) : VX false P tab im ds (⟨some d, .makeSlice t x y, ty, pos, after, none⟩ :: l) E H K := by
  subst hn hm
  exact VX.new hi (by simp only [opM, hx, hy, mMakeSlice, hT, hk, hj]; rw [if_pos ⟨by omega, by omega, by omega, by exact_mod_cast h3⟩]; rfl) k
theorem VX.storeE [Dr] {ty : TypeId} {pos : String} {after : Array Edge} {t : Nat} {a x : Operand} {b o : Nat} {tx : T} {i : TyI} {cs : List T} {H2 : Hp} (hT : tab t = some i) (ha : E.opd a = some (.ptr b o)) (hx : E.opd x = some tx) (hc : lookH H b = some cs)
    (h1 : (flat tx).length = i.sz) (h2 : o + i.sz ≤ cs.length) (h3 : (flat tx).all cellB = true) (he : setH H b (.c (putL cs o (flat tx))) = H2) (k : VX false P tab im ds l E H2 K) : VX false P tab im ds (⟨none, .store t a x, ty, pos, after, none⟩ :: l) E H K :=
  VX.store hT ha hx hc h1 h2 h3 (by rw [he]; exact k)
end
end
section
open Go.RowKit
def vwIn (bs : List Nat) : Vw := ⟨fun b' b => bs[b']? = some b, fun _ => False, fun _ _ => False, fun _ _ _ => False⟩
def vwOut (bs : List Nat) (n : Nat) : Vw := ⟨fun c j => bs[j]? = some c ∨ (bs.length ≤ j ∧ c + bs.length = n + j), fun _ => False, fun _ _ => False, fun _ _ _ => False⟩
def CvIn (v : Vw) (H : Hp) : List Nat → Hp → Prop
  | [], [] => True
  | b :: bs, .c cs' :: r => (∃ cs, lookH H b = some cs ∧ CvL v cs cs') ∧ CvIn v H bs r
  | b :: bs, .o p :: r => (blkH H b = .o p ∧ p.pi = true) ∧ CvIn v H bs r
  | _, _ => False
def CvOut (v : Vw) : Hp → Hp → Prop
  | [], l => l = []
  | .c cs :: r, l => ∃ cs' r', l = .c cs' :: r' ∧ CvL v cs cs' ∧ CvOut v r r'
  | .d :: r, l => ∃ r', l = .d :: r' ∧ CvOut v r r'
  | .o p :: r, l => ∃ r', l = .o p :: r' ∧ p.pi = true ∧ CvOut v r r'
def outH : List Nat → Hp → Hp → Hp
  | b :: bs, H, x :: xs => outH bs (setH H b x) xs
  | _, H, xs => H ++ xs
def nodB : List Nat → Bool
  | [] => true
  | b :: r => (r.all fun c => !(Nat.beq b c)) && nodB r
theorem nodB_at : ∀ {bs : List Nat}, nodB bs = true → ∀ (i j b : Nat), bs[i]? = some b → bs[j]? = some b → i = j
  | [], _, i, j, b, h, _ => by simp at h
  | x :: r, hh, i, j, b, h1, h2 => by
    simp only [nodB, Bool.and_eq_true] at hh
    have no : x = b → ∀ k, r[k]? ≠ some b := fun hx k hk => by
      subst hx
      have := List.all_eq_true.1 hh.1 _ (List.mem_of_getElem? hk)
      simp at this
    cases i with
    | zero =>
      cases j with
      | zero => rfl
      | succ j => simp at h1 h2; exact absurd h2 (no h1 j)
    | succ i =>
      cases j with
      | zero => simp at h1 h2; exact absurd h1 (no h2 i)
      | succ j => simp at h1 h2; rw [nodB_at hh.2 i j b h1 h2]
theorem CvIn.length {v : Vw} {H : Hp} : ∀ {bs : List Nat} {Hl : Hp}, CvIn v H bs Hl → bs.length = Hl.length
  | [], [], _ => rfl
  | _ :: bs, .c _ :: r, ⟨_, h⟩ => by simp [CvIn.length h]
  | _ :: bs, .o _ :: r, ⟨_, h⟩ => by simp [CvIn.length h]
theorem CvIn.at {v : Vw} {H : Hp} : ∀ {bs : List Nat} {Hl : Hp}, CvIn v H bs Hl → ∀ i b, bs[i]? = some b → (∃ cs cs', blkH Hl i = .c cs' ∧ lookH H b = some cs ∧ CvL v cs cs') ∨ ∃ p, blkH Hl i = .o p ∧ blkH H b = .o p ∧ p.pi = true
  | [], [], _, i, b, h => by simp at h
  | x :: bs, .c cs' :: r, ⟨⟨cs, h1, h2⟩, _⟩, 0, b, h => by simp at h; subst h; exact .inl ⟨cs, cs', rfl, h1, h2⟩
  | x :: bs, .o p :: r, ⟨h1, _⟩, 0, b, h => by simp at h; subst h; exact .inr ⟨p, rfl, h1.1, h1.2⟩
  | x :: bs, .o p :: r, ⟨_, h⟩, i + 1, b, hb => by simpa [blkH] using CvIn.at h i b (by simpa using hb)
  | x :: bs, .c cs' :: r, ⟨_, h⟩, i + 1, b, hb => by simpa [blkH] using CvIn.at h i b (by simpa using hb)
theorem CvOut.length {v : Vw} : ∀ {H Hc : Hp}, CvOut v H Hc → Hc.length = H.length
  | [], _, h => by obtain rfl := h; rfl
  | .c _ :: r, _, ⟨_, _, h1, _, h2⟩ => by subst h1; simp [CvOut.length h2]
  | .d :: r, _, ⟨_, h1, h2⟩ => by subst h1; simp [CvOut.length h2]
  | .o _ :: r, _, ⟨_, h1, _, h2⟩ => by subst h1; simp [CvOut.length h2]
theorem CvOut.at {v : Vw} : ∀ {H Hc : Hp}, CvOut v H Hc → ∀ i, (blkH H i = .d ∧ blkH Hc i = .d) ∨ (∃ cs cs', blkH H i = .c cs ∧ blkH Hc i = .c cs' ∧ CvL v cs cs') ∨ ∃ p, blkH H i = .o p ∧ blkH Hc i = .o p ∧ p.pi = true
  | [], _, h, i => by obtain rfl := h; exact .inl ⟨by simp [blkH], by simp [blkH]⟩
  | .c cs :: r, _, ⟨cs', r', h1, h2, h3⟩, 0 => by subst h1; exact .inr (.inl ⟨cs, cs', rfl, rfl, h2⟩)
  | .o p :: r, _, ⟨r', h1, h2, h3⟩, 0 => by subst h1; exact .inr (.inr ⟨p, rfl, rfl, h2⟩)
  | .o p :: r, _, ⟨r', h1, h2, h3⟩, i + 1 => by subst h1; simpa [blkH] using CvOut.at h3 i
  | .c cs :: r, _, ⟨cs', r', h1, h2, h3⟩, i + 1 => by subst h1; simpa [blkH] using CvOut.at h3 i
  | .d :: r, _, ⟨r', h1, h2⟩, 0 => by subst h1; exact .inl ⟨rfl, rfl⟩
  | .d :: r, _, ⟨r', h1, h2⟩, i + 1 => by subst h1; simpa [blkH] using CvOut.at h2 i
theorem CvOut.nd {v : Vw} {H Hc : Hp} (h : CvOut v H Hc) (i : Nat) : blkH H i = .d ↔ blkH Hc i = .d := by
  rcases h.at i with ⟨g1, g2⟩ | ⟨cs, cs', g1, g2, g3⟩ | ⟨p, g1, g2, g3⟩ <;> rw [g1, g2] <;> simp
theorem blkH_app : ∀ (H xs : Hp) (c : Nat), blkH (H ++ xs) c = if c < H.length then blkH H c else blkH xs (c - H.length)
  | [], xs, c => by simp
  | y :: r, xs, 0 => by simp [blkH]
  | y :: r, xs, c + 1 => by
    simp only [List.cons_append, blkH, blkH_app r xs c, List.length_cons, Nat.add_lt_add_iff_right, Nat.add_sub_add_right]
theorem outH_length : ∀ (bs : List Nat) (H xs : Hp), bs.length ≤ xs.length → (outH bs H xs).length + bs.length = H.length + xs.length
  | [], H, xs, _ => by simp [outH]
  | b :: bs, H, [], h => by simp at h
  | b :: bs, H, x :: xs, h => by
    have := outH_length bs (setH H b x) xs (by simpa using h)
    simp only [outH, List.length_cons, setH_length] at this ⊢
    omega
theorem blkH_out : ∀ (bs : List Nat) (H xs : Hp), bs.length ≤ xs.length → (∀ b ∈ bs, b < H.length) → nodB bs = true →
    (∀ j b, bs[j]? = some b → blkH (outH bs H xs) b = blkH xs j) ∧ (∀ c, c < H.length → c ∉ bs → blkH (outH bs H xs) c = blkH H c) ∧ (∀ c, H.length ≤ c → blkH (outH bs H xs) c = blkH xs (bs.length + (c - H.length)))
  | [], H, xs, _, _, _ => ⟨fun j b h => by simp at h, fun c h _ => by simp only [outH]; rw [blkH_app, if_pos h], fun c h => by simp only [outH]; rw [blkH_app, if_neg (by omega)]; simp⟩
  | b :: bs, H, [], h, _, _ => by simp at h
  | b :: bs, H, x :: xs, h, hlt, hnd => by
    have hb := hlt b List.mem_cons_self
    have hnd2 : nodB bs = true := by simp only [nodB, Bool.and_eq_true] at hnd; exact hnd.2
    have hno : b ∉ bs := fun hm => by
      simp only [nodB, Bool.and_eq_true] at hnd
      have := List.all_eq_true.1 hnd.1 _ hm
      simp at this
    obtain ⟨h1, h2, h3⟩ := blkH_out bs (setH H b x) xs (by simpa using h) (fun c hc => by rw [setH_length]; exact hlt c (List.mem_cons_of_mem _ hc)) hnd2
    rw [setH_length] at h2 h3
    refine ⟨fun j c hj => ?_, fun c hc hcb => ?_, fun c hc => ?_⟩
    · cases j with
      | zero =>
        simp at hj; subst hj
        simp only [outH]
        rw [h2 b hb hno, blkH_set _ _ _ _ hb, if_pos rfl]; rfl
      | succ j => simp only [outH]; rw [h1 j c (by simpa using hj)]; rfl
    · simp only [outH]
      rw [h2 c hc (fun hm => hcb (List.mem_cons_of_mem _ hm)), blkH_set _ _ _ _ hb, if_neg (fun e => hcb (by rw [e]; exact List.mem_cons_self))]
    · simp only [outH]
      rw [h3 c hc, List.length_cons, show bs.length + 1 + (c - H.length) = bs.length + (c - H.length) + 1 from by omega]; rfl
def FrK (bs : List Nat) (H : Hp) (K : T → Hp → Prop) (t : T) (Hl' : Hp) : Prop := ∃ t' Hc, Cv (vwOut bs H.length) t t' ∧ CvOut (vwOut bs H.length) Hl' Hc ∧ K t' (outH bs H Hc)
theorem CallT.frame [Dr] {P : Program} {f : FuncId} {args : List T} {Hl : Hp} {Q : T → Hp → Prop} (h : CallT P f args Hl Q) {H : Hp} {ts : List T} {K : T → Hp → Prop} (bs : List Nat) (hnd : nodB bs = true) (hin : CvIn (vwIn bs) H bs Hl) (ha : CvL (vwIn bs) ts args)
    (hk : ∀ t Hl', Q t Hl' → FrK bs H K t Hl') : CallT P f ts H K := by
  refine ⟨h.1, fun X0 M us hS hr => ?_⟩
  have hlen := hin.length
  let β2 : Nat → Option (Option (Nat × Nat)) := fun b' => match bs[b']? with | some b => M.β b | none => none
  let X1 : Nat → Prop := fun B => M.X B ∧ ¬ ∃ (i b O : Nat), bs[i]? = some b ∧ M.β b = some (some (B, O))
  have hβ : ∀ (i b : Nat), bs[i]? = some b → β2 i = M.β b := fun i b hb => by show (match bs[i]? with | some b => M.β b | none => none) = _; rw [hb]
  have hβn : ∀ (i : Nat), bs[i]? = none → β2 i = none := fun i hb => by show (match bs[i]? with | some b => M.β b | none => none) = _; rw [hb]
  have hinfo : ∀ (i b : Nat), bs[i]? = some b → b < H.length ∧ blkH H b ≠ .d ∧ blkH Hl i ≠ .d ∧ (∃ p, M.β b = some p) ∧ ∀ B O, M.β b = some (some (B, O)) → ¬ X0 B := fun i b hb => by
    rcases hin.at i b hb with ⟨cs, cs', g1, g2, g3⟩ | ⟨p, g1, g2, g3⟩
    · refine ⟨lookH_lt g2, by rw [lookH_c.1 g2]; simp, by rw [g1]; simp, ?_, fun B O h2 hB => ?_⟩
      · rcases hS.live b cs (lookH_c.1 g2) (lookH_lt g2) with ⟨q1, -⟩ | ⟨B, O, a, e, fz, q1, -⟩
        · exact ⟨_, q1⟩
        · exact ⟨_, q1⟩
      · rcases hS.live b cs (lookH_c.1 g2) (lookH_lt g2) with ⟨k1, -⟩ | ⟨B', O', a, e, fz, k1, k2, k3, k4, k5, k6⟩
        · rw [h2] at k1; cases k1
        · rw [h2] at k1; injection k1 with k1; injection k1 with k1; injection k1 with e1 e2; subst e1; exact k6 hB
    · have hlt : b < H.length := blkH_lt (by rw [g2]; simp)
      obtain ⟨B', o, k1, k2, k3, k4, k5⟩ := hS.liveo b p g2 hlt
      refine ⟨hlt, by rw [g2]; simp, by rw [g1]; simp, ⟨_, k1⟩, fun B O h2 hB => ?_⟩
      rw [h2] at k1; injection k1 with k1; injection k1 with k1; injection k1 with e1 e2; subst e1; exact k5 hB
  have hX01 : ∀ B, X0 B → X1 B := fun B hB => ⟨(hS.own B).2 (.inl hB), fun ⟨i, b, O, h1, h2⟩ => (hinfo i b h1).2.2.2.2 B O h2 hB⟩
  have hv : VwOk (vwIn bs) M ⟨β2, M.X, M.w⟩ := ⟨⟨fun B o h k _ => ⟨h, k⟩⟩, fun _ _ h => h, fun b' b hb => hβ b' b hb, fun _ h => h.elim, fun _ _ h => h.elim, fun _ _ _ h => h.elim⟩
  have hS2 : SimH Hl X1 ⟨β2, M.X, M.w⟩ := by
    refine ⟨fun i cells hb hd => ?_, fun i p hb hd => ?_, fun i j B O O' h1 h2 h3 h4 => ?_, fun i hi => ?_, fun B => ?_, hS.bnd, hS.glo⟩
    · have hi : i < bs.length := by rw [hlen]; exact hd
      obtain ⟨cs, cs', g1, g2, g3⟩ := (hin.at i bs[i] (List.getElem?_eq_getElem hi)).resolve_right (fun ⟨p, g1, _⟩ => by rw [hb] at g1; cases g1)
      rw [hb] at g1; injection g1 with g1; subst g1
      have e1 := hβ i bs[i] (List.getElem?_eq_getElem hi)
      rcases hS.live _ cs (lookH_c.1 g2) (lookH_lt g2) with ⟨k1, k2⟩ | ⟨B, O, a, e, fz, k1, k2, k3, k4, k5, k6⟩
      · subst k2; cases g3; exact .inl ⟨e1.trans k1, rfl⟩
      · exact .inr ⟨B, O, a, e, fz, e1.trans k1, k2, k3, g3.repA hv a O k4, k5, fun hx => hx.2 ⟨i, _, O, List.getElem?_eq_getElem hi, k1⟩⟩
    · have hi : i < bs.length := by rw [hlen]; exact hd
      obtain ⟨q, g1, g2, g3⟩ := (hin.at i bs[i] (List.getElem?_eq_getElem hi)).resolve_left (fun ⟨cs, cs', g1, _⟩ => by rw [hb] at g1; cases g1)
      rw [hb] at g1; injection g1 with g1; subst g1
      have e1 := hβ i bs[i] (List.getElem?_eq_getElem hi)
      obtain ⟨B, o, k1, k2, k3, k4, k5⟩ := hS.liveo _ p g2 (blkH_lt (by rw [g2]; simp))
      exact ⟨B, o, e1.trans k1, k2, k3, p.sti g3 hv.st k4, fun hx => hx.2 ⟨i, _, 0, List.getElem?_eq_getElem hi, k1⟩⟩
    · have hi : i < bs.length := by rw [hlen]; exact blkH_lt h1
      have hj : j < bs.length := by rw [hlen]; exact blkH_lt h2
      have g2 := (hinfo i bs[i] (List.getElem?_eq_getElem hi)).2.1
      have q2 := (hinfo j bs[j] (List.getElem?_eq_getElem hj)).2.1
      have h3 : β2 i = _ := h3
      have h4 : β2 j = _ := h4
      rw [hβ i _ (List.getElem?_eq_getElem hi)] at h3
      rw [hβ j _ (List.getElem?_eq_getElem hj)] at h4
      have := hS.inj _ _ B O O' g2 q2 h3 h4
      exact nodB_at hnd i j bs[i] (List.getElem?_eq_getElem hi) (by rw [this]; exact List.getElem?_eq_getElem hj)
    · exact hβn i (by rw [List.getElem?_eq_none_iff]; omega)
    · show M.X B ↔ _
      constructor
      · intro hx
        by_cases hm : ∃ (i b O : Nat), bs[i]? = some b ∧ M.β b = some (some (B, O))
        · obtain ⟨i, b, O, h1, h2⟩ := hm
          exact .inr ⟨i, O, (hinfo i b h1).2.2.1, (hβ i b h1).trans h2⟩
        · exact .inl ⟨hx, hm⟩
      · rintro (hx | ⟨i, O, h1, h2⟩)
        · exact hx.1
        · have hi : i < bs.length := by rw [hlen]; exact blkH_lt h1
          have h2 : β2 i = _ := h2
          rw [hβ i _ (List.getElem?_eq_getElem hi)] at h2
          exact (hS.own B).2 (.inr ⟨_, O, (hinfo i bs[i] (List.getElem?_eq_getElem hi)).2.1, h2⟩)
  refine (h.2 X1 ⟨β2, M.X, M.w⟩ us hS2 (ha.repL hv us hr)).mono ?_
  rintro e w' ⟨u, t, Hl', M3, rfl, rfl, k1, k2, k3, k4⟩
  obtain ⟨t', Hc, c1, c2, c3⟩ := hk t Hl' k1
  have hcl := c2.length
  have hsome : ∀ (i b : Nat), bs[i]? = some b → b < H.length ∧ ∃ p, M.β b = some p := fun i b hb => by
    exact ⟨(hinfo i b hb).1, (hinfo i b hb).2.2.2.1⟩
  have h3β : ∀ (i b : Nat), bs[i]? = some b → M3.β i = M.β b := fun i b hb => by
    obtain ⟨-, p, hp⟩ := hsome i b hb
    rw [hp]
    exact k2.at_ i p ((hβ i b hb).trans hp)
  have hkl : bs.length ≤ Hl'.length := by
    rcases Nat.eq_zero_or_pos bs.length with h0 | h0
    · omega
    · obtain ⟨-, p, hp⟩ := hsome (bs.length - 1) bs[bs.length - 1] (List.getElem?_eq_getElem (by omega))
      have h5 := h3β (bs.length - 1) bs[bs.length - 1] (List.getElem?_eq_getElem (by omega))
      refine Classical.byContradiction fun hn => ?_
      have := k3.dom (bs.length - 1) (by omega)
      rw [h5, hp] at this; cases this
  obtain ⟨o1, o2, o3⟩ := blkH_out bs H Hc (by omega) (fun b hb => by obtain ⟨i, hi⟩ := List.mem_iff_getElem?.1 hb; exact (hsome i b hi).1) hnd
  have olen := outH_length bs H Hc (by omega)
  let β' : Nat → Option (Option (Nat × Nat)) := fun c => if c < H.length then M.β c else M3.β (bs.length + (c - H.length))
  have b1 : ∀ c, c < H.length → β' c = M.β c := fun c hc => if_pos hc
  have b2 : ∀ c, ¬ c < H.length → β' c = M3.β (bs.length + (c - H.length)) := fun c hc => if_neg hc
  have hE : Evo X0 M ⟨β', M3.X, M3.w⟩ := by
    refine ⟨fun c p hp => ?_, k2.nox, fun B hB hx => k2.keep B hB (hx.imp id (hX01 B)), k2.shape, k2.os, k2.tape, k2.output, k2.size⟩
    have hc : c < H.length := Classical.byContradiction fun hn => by rw [hS.dom c hn] at hp; cases hp
    exact (b1 c hc).trans hp
  have hv2 : VwOk (vwOut bs H.length) M3 ⟨β', M3.X, M3.w⟩ := by
    refine ⟨⟨fun B o h k _ => ⟨h, k⟩⟩, fun _ _ h => h, fun c j hc => ?_, fun _ h => h.elim, fun _ _ h => h.elim, fun _ _ _ h => h.elim⟩
    rcases hc with hc | ⟨hc1, hc2⟩
    · show β' c = _
      rw [b1 c (hsome j c hc).1, h3β j c hc]
    · show β' c = _
      rw [b2 c (by omega), show bs.length + (c - H.length) = j from by omega]
 
  have unseen : ∀ c B O, c < H.length → c ∉ bs → blkH H c ≠ .d → M.β c = some (some (B, O)) → X1 B := fun c B O hc hcb hl hp => by
    refine ⟨(hS.own B).2 (.inr ⟨c, O, hl, hp⟩), fun ⟨i, b, O', q1, q2⟩ => ?_⟩
    have := hS.inj c b B O O' hl (hinfo i b q1).2.1 hp q2
    subst this
    exact hcb (List.mem_of_getElem? q1)
  have kind : ∀ c, c < (outH bs H Hc).length → (∃ j, j < Hl'.length ∧ blkH (outH bs H Hc) c = blkH Hc j ∧ β' c = M3.β j ∧ (bs[j]? = some c ∨ (bs.length ≤ j ∧ c + bs.length = H.length + j))) ∨ (c < H.length ∧ c ∉ bs ∧ blkH (outH bs H Hc) c = blkH H c ∧ β' c = M.β c) := fun c hc => by
    by_cases hlt : c < H.length
    · by_cases hm : c ∈ bs
      · obtain ⟨j, hj⟩ := List.mem_iff_getElem?.1 hm
        have hjl := (List.getElem?_eq_some_iff.1 hj).1
        exact .inl ⟨j, by omega, o1 j c hj, by rw [b1 c hlt, h3β j c hj], .inl hj⟩
      · exact .inr ⟨hlt, hm, o2 c hlt hm, b1 c hlt⟩
    · exact .inl ⟨bs.length + (c - H.length), by omega, o3 c (by omega), b2 c hlt, .inr ⟨by omega, by omega⟩⟩
  have jkind : ∀ (c j c' j' : Nat), (bs[j]? = some c ∨ (bs.length ≤ j ∧ c + bs.length = H.length + j)) → (bs[j']? = some c' ∨ (bs.length ≤ j' ∧ c' + bs.length = H.length + j')) → j = j' → c = c' := fun c j c' j' h1 h2 e => by
    subst e
    rcases h1 with h1 | h1 <;> rcases h2 with h2 | h2
    · rw [h1] at h2; injection h2
    · have := (List.getElem?_eq_some_iff.1 h1).1; omega
    · have := (List.getElem?_eq_some_iff.1 h2).1; omega
    · omega
  have hS3 : SimH (outH bs H Hc) X0 ⟨β', M3.X, M3.w⟩ := by
    refine ⟨fun c cells hb hd => ?_, fun c p hb hd => ?_, fun c c' B O O' h1 h2 h3 h4 => ?_, fun c hc => ?_, fun B => ?_, k3.bnd, k3.glo⟩
    · rcases kind c hd with ⟨j, hj, q1, q2, q3⟩ | ⟨hc, hcb, q1, q2⟩
      · rcases c2.at j with ⟨g1, g2⟩ | ⟨cs, cs', g1, g2, g3⟩ | ⟨p, g1, g2, g3⟩
        · rw [q1, g2] at hb; cases hb
        rotate_left
        · rw [q1, g2] at hb; cases hb
        · rw [q1, g2] at hb; injection hb with hb; subst hb
          rcases k3.live j cs g1 hj with ⟨y1, y2⟩ | ⟨B, O, a, e, fz, y1, y2, y3, y4, y5, y6⟩
          · subst y2; cases g3; exact .inl ⟨q2.trans y1, rfl⟩
          · exact .inr ⟨B, O, a, e, fz, q2.trans y1, y2, y3, g3.repA hv2 a O y4, y5, fun hx => y6 (hX01 B hx)⟩
      · rw [q1] at hb
        rcases hS.live c cells hb hc with ⟨y1, y2⟩ | ⟨B, O, a, e, fz, y1, y2, y3, y4, y5, y6⟩
        · exact .inl ⟨q2.trans y1, y2⟩
        · have hx := unseen c B O hc hcb (by rw [hb]; simp) y1
          exact .inr ⟨B, O, a, e, fz, q2.trans y1, (k2.keep B (heap_lt y2) (.inr hx)).trans y2, y3, RepA.stays hE.stays _ _ _ y4, y5, y6⟩
    · rcases kind c hd with ⟨j, hj, q1, q2, q3⟩ | ⟨hc, hcb, q1, q2⟩
      · rcases c2.at j with ⟨g1, g2⟩ | ⟨cs, cs', g1, g2, g3⟩ | ⟨p', g1, g2, g3⟩
        · rw [q1, g2] at hb; cases hb
        · rw [q1, g2] at hb; cases hb
        · rw [q1, g2] at hb; injection hb with hb; subst hb
          obtain ⟨B, o, y1, y2, y3, y4, y5⟩ := k3.liveo j _ g1 hj
          exact ⟨B, o, q2.trans y1, y2, y3, OP.sti _ g3 hv2.st y4, fun hx => y5 (hX01 B hx)⟩
      · rw [q1] at hb
        obtain ⟨B, o, y1, y2, y3, y4, y5⟩ := hS.liveo c p hb hc
        have hx := unseen c B 0 hc hcb (by rw [hb]; simp) y1
        exact ⟨B, o, q2.trans y1, (k2.keep B (heap_lt y2) (.inr hx)).trans y2, y3, p.st hE.stays y4, y5⟩
    · have h3 : β' c = _ := h3
      have h4 : β' c' = _ := h4
      have mix : ∀ c d j, c < H.length → c ∉ bs → blkH H c ≠ .d → M.β c = some (some (B, d)) → blkH Hl' j ≠ .d → (∃ O, M3.β j = some (some (B, O))) → j < Hl'.length → False := fun c d j hc hcb hl hp hj ⟨O, hO⟩ hjl => by
        have hx := unseen c B d hc hcb hl hp
        cases hbj : blkH Hl' j with
        | d => exact hj hbj
        | c cs =>
          rcases k3.live j cs hbj hjl with ⟨y1, -⟩ | ⟨B', O', a, e, fz, y1, y2, y3, y4, y5, y6⟩
          · rw [hO] at y1; cases y1
          · rw [hO] at y1; injection y1 with y1; injection y1 with y1; injection y1 with e1 e2; subst e1; exact y6 hx
        | o p =>
          obtain ⟨B', o, y1, y2, y3, y4, y5⟩ := k3.liveo j p hbj hjl
          rw [hO] at y1; injection y1 with y1; injection y1 with y1; injection y1 with e1 e2; subst e1; exact y5 hx
      have ndc : ∀ j, blkH Hc j ≠ .d → blkH Hl' j ≠ .d := fun j hj => by
        exact fun h => hj ((c2.nd j).1 h)
      rcases kind c (blkH_lt h1) with ⟨j, hj, q1, q2, q3⟩ | ⟨hc, hcb, q1, q2⟩ <;> rcases kind c' (blkH_lt h2) with ⟨j', hj', r1, r2, r3⟩ | ⟨hc', hcb', r1, r2⟩
      · rw [q1] at h1; rw [r1] at h2; rw [q2] at h3; rw [r2] at h4
        exact jkind c j c' j' q3 r3 (k3.inj j j' B O O' (ndc j h1) (ndc j' h2) h3 h4)
      · rw [q1] at h1; rw [r1] at h2; rw [q2] at h3; rw [r2] at h4
        exact (mix c' O' j hc' hcb' h2 h4 (ndc j h1) ⟨O, h3⟩ hj).elim
      · rw [q1] at h1; rw [r1] at h2; rw [q2] at h3; rw [r2] at h4
        exact (mix c O j' hc hcb h1 h3 (ndc j' h2) ⟨O', h4⟩ hj').elim
      · rw [q1] at h1; rw [r1] at h2; rw [q2] at h3; rw [r2] at h4
        exact hS.inj c c' B O O' h1 h2 h3 h4
    · show β' c = none
      rw [b2 c (by omega)]
      exact k3.dom _ (by omega)
    · show M3.X B ↔ _
      rw [k3.own B]
      constructor
      · rintro (hx | ⟨j, O, h1, h2⟩)
        · rcases (hS.own B).1 hx.1 with h0 | ⟨c, O, h1, h2⟩
          · exact .inl h0
          · have hc := blkH_lt h1
            have hcb : c ∉ bs := fun hm => by
              obtain ⟨i, hi⟩ := List.mem_iff_getElem?.1 hm
              exact hx.2 ⟨i, c, O, hi, h2⟩
            exact .inr ⟨c, O, by rw [o2 c hc hcb]; exact h1, (b1 c hc).trans h2⟩
        · have hj := blkH_lt h1
          have hl : blkH Hc j ≠ .d := by
            exact fun h => h1 ((c2.nd j).2 h)
          by_cases hjk : j < bs.length
          · have hb := List.getElem?_eq_getElem hjk
            exact .inr ⟨bs[j], O, by rw [o1 j _ hb]; exact hl, by show β' bs[j] = _; rw [b1 _ (hsome j _ hb).1, ← h3β j _ hb]; exact h2⟩
          · refine .inr ⟨H.length + (j - bs.length), O, ?_, ?_⟩
            · rw [o3 _ (by omega), show bs.length + (H.length + (j - bs.length) - H.length) = j from by omega]; exact hl
            · show β' _ = _
              rw [b2 _ (by omega), show bs.length + (H.length + (j - bs.length) - H.length) = j from by omega]; exact h2
      · rintro (hx | ⟨c, O, h1, h2⟩)
        · exact .inl (hX01 B hx)
        · have h2 : β' c = _ := h2
          rcases kind c (blkH_lt h1) with ⟨j, hj, q1, q2, q3⟩ | ⟨hc, hcb, q1, q2⟩
          · rw [q1] at h1; rw [q2] at h2
            refine .inr ⟨j, O, ?_, h2⟩
            exact fun h => h1 ((c2.nd j).1 h)
          · rw [q1] at h1; rw [q2] at h2
            exact .inl (unseen c B O hc hcb h1 h2)
  exact ⟨u, t', _, ⟨β', M3.X, M3.w⟩, rfl, rfl, c3, hE, hS3, c1.rep hv2 u k4⟩
theorem frK {bs : List Nat} {H : Hp} {K : T → Hp → Prop} {t t' : T} {Hl' Hc : Hp} (h1 : Cv (vwOut bs H.length) t t') (h2 : CvOut (vwOut bs H.length) Hl' Hc) (h3 : K t' (outH bs H Hc)) : FrK bs H K t Hl' := ⟨t', Hc, h1, h2, h3⟩
theorem CvIn_nil {v : Vw} {H : Hp} : CvIn v H [] [] := trivial
theorem CvIn_cons {v : Vw} {H : Hp} {b : Nat} {bs : List Nat} {cs cs' : List T} {r : Hp} (h : lookH H b = some cs) (k : CvL v cs cs') (l : CvIn v H bs r) : CvIn v H (b :: bs) (.c cs' :: r) := ⟨⟨cs, h, k⟩, l⟩
theorem CvIn_o {v : Vw} {H : Hp} {b : Nat} {bs : List Nat} {p : OP} {r : Hp} (h : blkH H b = .o p) (k : p.pi = true) (l : CvIn v H bs r) : CvIn v H (b :: bs) (.o p :: r) := ⟨⟨h, k⟩, l⟩
theorem CvOut_o {v : Vw} {p : OP} {r r' : Hp} (h : p.pi = true) (k : CvOut v r r') : CvOut v (.o p :: r) (.o p :: r') := ⟨r', rfl, h, k⟩
theorem CvOut_nil {v : Vw} : CvOut v [] [] := rfl
theorem CvOut_c {v : Vw} {cs cs' : List T} {r r' : Hp} (h : CvL v cs cs') (k : CvOut v r r') : CvOut v (.c cs :: r) (.c cs' :: r') := ⟨cs', r', rfl, h, k⟩
theorem CvOut_d {v : Vw} {r r' : Hp} (k : CvOut v r r') : CvOut v (.d :: r) (.d :: r') := ⟨r', rfl, k⟩
theorem Cv.slcOld {bs : List Nat} {n j c o m z : Nat} {k : Option Nat} (h : bs[j]? = some c) : Cv (vwOut bs n) (.slc j o m z k) (.slc c o m z k) := .slc (.inl h) (.inl rfl)
theorem Cv.slcNew {bs : List Nat} {n j o m z : Nat} {k : Option Nat} (h : bs.length ≤ j) : Cv (vwOut bs n) (.slc j o m z k) (.slc (n + (j - bs.length)) o m z k) := .slc (.inr ⟨h, by omega⟩) (.inl rfl)
theorem Cv.ptrOld {bs : List Nat} {n j c o : Nat} (h : bs[j]? = some c) : Cv (vwOut bs n) (.ptr j o) (.ptr c o) := .ptr (.inl h)
theorem Cv.ptrNew {bs : List Nat} {n j o : Nat} (h : bs.length ≤ j) : Cv (vwOut bs n) (.ptr j o) (.ptr (n + (j - bs.length)) o) := .ptr (.inr ⟨h, by omega⟩)
theorem Cv.fslc0 {v : Vw} {b n z : Nat} {c : Option Nat} {cs cs' : List T} (h : v.F b cs) (hl : CvL v cs cs') : Cv v (.slc b 0 n z c) (.islc cs' n none) := .fslc h (fun i t hi => by rw [Nat.zero_add]; exact hi) hl (.inr rfl)
theorem Cv.fslcA {v : Vw} {b n z : Nat} {c : Option Nat} {xs tl cs' : List T} (h : v.F b (xs ++ tl)) (hl : CvL v xs cs') : Cv v (.slc b 0 n z c) (.islc cs' n none) := .fslc h (fun i t hi => by rw [Nat.zero_add, List.getElem?_append_left (List.getElem?_eq_some_iff.1 hi).1]; exact hi) hl (.inr rfl)
theorem encL_putA {α : Type} (c : Cd α) {l : List α} {tl xs : List T} {m off : Nat} {a b : α} (h : l[m]? = some a) (ho : off + xs.length ≤ c.sz) (hp : putL (c.cells a) off xs = c.cells b) : putL (encL c l ++ tl) (m * c.sz + off) xs = encL c (l.set m b) ++ tl := by
  have hml : m < l.length := (List.getElem?_eq_some_iff.1 h).1
  have hle : (m + 1) * c.sz ≤ l.length * c.sz := Nat.mul_le_mul_right _ hml
  rw [Nat.add_mul] at hle
  rw [← encL_put c l m off a b xs h ho hp]
  unfold putL
  rw [List.take_append_of_le_length (by rw [encL_len]; omega), List.drop_append_of_le_length (by rw [encL_len]; omega)]
  simp [List.append_assoc]
theorem encL_putW {α : Type} (c : Cd α) {l : List α} {tl : List T} {m : Nat} {b : α} (h : m < l.length) : putL (encL c l ++ tl) (m * c.sz) (c.cells b) = encL c (l.set m b) ++ tl := by
  have := encL_putA c (tl := tl) (xs := c.cells b) (off := 0) (b := b) (List.getElem?_eq_getElem h) (by rw [c.len]; omega) (by unfold putL; rw [List.take_zero, List.nil_append, Nat.zero_add, List.drop_of_length_le (by rw [c.len, c.len]; exact Nat.le_refl _), List.append_nil])
  simpa using this
theorem putL_app (a b xs : List T) (n : Nat) (h : n = a.length) : putL (a ++ b) n xs = a ++ putL b 0 xs := by
  subst h
  unfold putL
  rw [List.take_left, List.drop_append, List.take_zero, List.nil_append, Nat.zero_add, List.drop_of_length_le (Nat.le_add_right _ _), List.nil_append, Nat.add_sub_cancel_left, List.append_assoc]
theorem pureL_mem {ts : List T} (h : T.pureL ts = true) : ∀ t ∈ ts, t.pure = true := fun t ht => by obtain ⟨i, hi⟩ := List.mem_iff_getElem?.1 ht; exact pureL_get h i t hi
theorem pureL_append {a b : List T} (h : T.pureL a = true) (k : T.pureL b = true) : T.pureL (a ++ b) = true := pureL_of fun t ht => by
  rcases List.mem_append.1 ht with ht | ht
  · exact pureL_mem h t ht
  · exact pureL_mem k t ht
theorem pureL_putL {cs xs : List T} {o : Nat} (h : T.pureL cs = true) (k : T.pureL xs = true) : T.pureL (putL cs o xs) = true := by
  unfold putL
  refine pureL_append (pureL_append (pureL_of fun t ht => pureL_mem h t (List.mem_of_mem_take ht)) k) (pureL_of fun t ht => pureL_mem h t (List.mem_of_mem_drop ht))
theorem pureL_zeros {c : Nat} {z : List T} (h : T.pureL z = true) : T.pureL (zeros c z) = true := pureL_of fun t ht => by
  obtain ⟨q, hq⟩ := List.mem_iff_getElem?.1 ht
  rw [zeros_get] at hq
  split at hq
  · exact pureL_mem h t (List.mem_of_getElem? hq)
  · cases hq
end
section
open Go.RowKit
open Go.ChangeMaps (setBlock)

/- entries of one key each -/
section
open Classical
variable {β : Type} {f : MapEntry → β}
theorem filter_at : ∀ {l : List MapEntry}, (l.map f).Nodup → ∀ {j : Nat} {e : MapEntry}, l[j]? = some e → l.filter (fun x => decide (f x ≠ f e)) = l.eraseIdx j
  | [], _, j, e, h => by simp at h
  | x :: l, hn, 0, e, h => by
    simp at h; subst h
    rw [List.map_cons, List.nodup_cons] at hn
    rw [List.filter_cons_of_neg (by simp), List.eraseIdx_zero, List.tail_cons, List.filter_eq_self]
    intro y hy
    have : f y ≠ f x := fun he => hn.1 (List.mem_map.2 ⟨y, hy, he⟩)
    simpa using this
  | x :: l, hn, j + 1, e, h => by
    rw [List.map_cons, List.nodup_cons] at hn
    simp at h
    have : f x ≠ f e := fun he => hn.1 (List.mem_map.2 ⟨e, List.mem_of_getElem? h, he.symm⟩)
    rw [List.filter_cons_of_pos (by simpa using this), List.eraseIdx_cons_succ, filter_at hn.2 h]
end
theorem erase_map {α β : Type} (f : α → β) (l : List α) (j : Nat) : (l.eraseIdx j).map f = (l.map f).eraseIdx j := Go.ChangeMaps.map_eraseIdx f l j
section
variable {P : Program} {tab : Tab} {M : Mp} {H : Hp} {ρ : EnvF} {X0 : Nat → Prop}
theorem ExtT.mono [Dr] {o : Oper} {Q Q' : T → Hp → Prop} (h : ExtT P o H ρ Q) (k : ∀ t H', Q t H' → Q' t H') : ExtT P o H ρ Q' :=
  ⟨h.1, fun X0 M ρ' h1 h2 => by obtain ⟨t, H', M', a, b, c, d⟩ := h.2 X0 M ρ' h1 h2; exact ⟨t, H', M', a, b, c, k _ _ d⟩⟩
end
def iterIs (c : Option (Value × T)) (ks : List Value) (ts : List T) (M : Mp) (o : Obj) : Prop :=
  (o = .mapIter none 0 #[] 0 ∧ ks = [] ∧ ts = [] ∧ c = none) ∨ ∃ (r : Nat) (es : Array MapEntry) (n : Nat) (seen : Array Nat) (us : List Value) (es' : List MapEntry), o = .mapIter (some r) n seen n ∧ ¬ M.X r ∧ M.w.heap[r]? = some (.map es n) ∧ (es.toList.map (·.born)).Nodup ∧ (∀ e ∈ es.toList, e.born < n) ∧
      List.Perm es' (leftOf es seen).toList ∧ es'.map (·.key) = ks ∧ es'.map (·.val) = us ∧ RepL M ts us ∧ (∀ k t, c = some (k, t) → ∃ (e : MapEntry) (seen' : Array Nat), e ∈ es.toList ∧ seen = seen'.push e.born ∧ e.key = k ∧ Rep M t e.val)
theorem iterIs.stays {c : Option (Value × T)} {ks : List Value} {ts : List T} {M M' : Mp} {o : Obj} (h : Stays M M') (hh : iterIs c ks ts M o) : iterIs c ks ts M' o := by
  rcases hh with hh | ⟨r, es, n, seen, us, es', h1, h2, h3, h4, h5, h6, h7, h8, h9, h10⟩
  · exact .inl hh
  · refine .inr ⟨r, es, n, seen, us, es', h1, (h.obj _ _ h2 h3 (fun d => by simp)).1, (h.obj _ _ h2 h3 (fun d => by simp)).2, h4, h5, h6, h7, h8, RepL.stays h _ _ h9, fun k t hc => ?_⟩
    obtain ⟨e, s, a1, a2, a3, a4⟩ := h10 k t hc
    exact ⟨e, s, a1, a2, a3, Rep.stays h _ _ a4⟩
def iterPi (c : Option (Value × T)) (ts : List T) : Bool := T.pureL ts && (match c with | some (_, t) => t.pure | none => true)
theorem iterIs.staysI {c : Option (Value × T)} {ks : List Value} {ts : List T} {M M' : Mp} {o : Obj} (p : iterPi c ts = true) (h : StaysI M M') (hh : iterIs c ks ts M o) : iterIs c ks ts M' o := by
  unfold iterPi at p
  simp only [Bool.and_eq_true] at p
  rcases hh with hh | ⟨r, es, n, seen, us, es', h1, h2, h3, h4, h5, h6, h7, h8, h9, h10⟩
  · exact .inl hh
  · refine .inr ⟨r, es, n, seen, us, es', h1, (h.obj _ _ h2 h3 (fun d => by simp)).1, (h.obj _ _ h2 h3 (fun d => by simp)).2, h4, h5, h6, h7, h8, RepL.staysI h _ _ p.1 h9, fun k t hc => ?_⟩
    obtain ⟨e, s, a1, a2, a3, a4⟩ := h10 k t hc
    subst hc
    exact ⟨e, s, a1, a2, a3, Rep.staysI h _ _ p.2 a4⟩
def iterP (c : Option (Value × T)) (ks : List Value) (ts : List T) : OP := ⟨iterIs c ks ts, fun h k => iterIs.stays h k, iterPi c ts, fun p _ _ _ h k => iterIs.staysI p h k⟩
section
variable {P : Program} {tab : Tab} {M : Mp} {H : Hp} {ρ : EnvF} {X0 : Nat → Prop}
theorem own_ptr [Dr] (hS : SimH H X0 M) {b : Nat} {p : OP} {u : Value} (hb : blkH H b = .o p) (hr : Rep M (.ptr b 0) u) : ∃ B o, u = .pointer (some ⟨B, 0, none⟩) ∧ M.β b = some (some (B, 0)) ∧ M.w.heap[B]? = some o ∧ (∀ a e fz, o ≠ .cells a e fz) ∧ p.p M o ∧ ¬ X0 B := by
  obtain ⟨B, O, h1, rfl⟩ := hr
  obtain ⟨B', o, k1, k2, k3, k4, k5⟩ := hS.liveo b p hb (blkH_lt (by rw [hb]; simp))
  rw [h1] at k1; injection k1 with k1; injection k1 with k1; injection k1 with e1 e2; subst e1 e2
  exact ⟨B, o, rfl, h1, k2, k3, k4, k5⟩
theorem leftOf_nil (es : Array MapEntry) : leftOf es #[] = es := by
  unfold leftOf
  simp
theorem ext_range [Dr] {d : Option Nat} {t ty : TypeId} {pos : String} {after : Array Edge} {x : Operand} {i : TyI} {kt et : Nat} (hT : TabOk P tab) (hi : tab t = some i) (hik : i.k = .mp kt et) {a : T} {ks : List Value} {ts : List T} (hx : ρ x = some a) (ha : a = .mp ks ts ∨ (a = .v (.map none) ∧ ks = [] ∧ ts = [])) :
    ExtT P ⟨d, .range t x, ty, pos, after, none⟩ H ρ (fun r H' => r = .ptr H.length 0 ∧ H' = H ++ [.o (iterP none ks ts)]) :=
  ⟨fun c h => (by cases h), fun X0 M ρ' hS hρ => by
    obtain ⟨D, hD, hkD⟩ := (hT t i hi).kind
    rw [hik] at hkD
    cases D <;> simp only [kdOk] at hkD
    have hr := hρ x _ hx
    have key : ∀ it : Obj, (∀ a e fz, it ≠ .cells a e fz) → iterIs none ks ts M it → (Instr.range t (ρ' x)).run P M.w = .ok (.pointer (some ⟨M.w.heap.size, 0, none⟩)) { M.w with heap := M.w.heap.push it } →
        ∃ t' H' M', ((∃ u, (execOp ρ' ⟨d, .range t x, ty, pos, after, none⟩).run P M.w = .ok (.value u) M'.w ∧ Rep M' t' u) ∨ ((execOp ρ' ⟨d, .range t x, ty, pos, after, none⟩).run P M.w = .ok .skip M'.w ∧ t' = .v undef)) ∧ Evo X0 M M' ∧ SimH H' X0 M' ∧ t' = .ptr H.length 0 ∧ H' = H ++ [.o (iterP none ks ts)] := by
      intro it h1 h2 h3
      obtain ⟨hE, S⟩ := Sim.newo hS (nx := H.length) (fun hh => Nat.lt_irrefl _ hh) (q := iterP none ks ts) (o' := it) (w := { M.w with heap := M.w.heap.push it }) rfl rfl ⟨rfl, fun _ => Nat.le_refl _⟩ rfl h1 h2
      exact ⟨.ptr H.length 0, _, newM M H.length _, .inl ⟨_, by simp only [execOp, Sem.run_bind, h3, Result.andThen_ok]; rfl, M.w.heap.size, 0, if_pos rfl, rfl⟩, hE, SimH.push S, rfl, rfl⟩
    rcases ha with rfl | ⟨rfl, rfl, rfl⟩
    · obtain ⟨r, es, n, us, h1, h2, h3, ⟨⟨es', q1, q2, q3⟩, q4, q5, q6⟩, h5⟩ := hr
      refine key (.mapIter (some r) n #[] n) (by simp) (.inr ⟨r, es, n, #[], us, es', rfl, h2, h3, q5, q6, by rw [leftOf_nil]; exact q1, q2, q3, h5, fun k t hc => by cases hc⟩) ?_
      simp only [Instr.range, Sem.run_bind, run_underlying hD, Result.andThen_ok, h1, getObj_run h3, Sem.run_pure]
      rfl
    · have h1 : ρ' x = .map none := hr
      refine key (.mapIter none 0 #[] 0) (by simp) (.inl ⟨rfl, rfl, rfl, rfl⟩) ?_
      simp only [Instr.range, Sem.run_bind, run_underlying hD, Result.andThen_ok, h1, Sem.run_pure]
      rfl⟩
theorem left_push {es : Array MapEntry} {seen : Array Nat} (b : Nat) : (leftOf es (seen.push b)).toList = (leftOf es seen).toList.filter (fun x => decide (x.born ≠ b)) := by
  unfold leftOf
  rw [Array.toList_filter, Array.toList_filter, List.filter_filter]
  refine List.filter_congr fun x _ => ?_
  simp only [Array.contains_push]
  by_cases hb : x.born = b <;> simp [hb]
theorem ext_next [Dr] {d : Option Nat} {ty : TypeId} {pos : String} {after : Array Edge} {x : Operand} {b : Nat} {c : Option (Value × T)} {ks : List Value} {ts : List T} (hx : ρ x = some (.ptr b 0)) (hb : blkH H b = .o (iterP c ks ts)) :
    ExtT P ⟨d, .next x false, ty, pos, after, none⟩ H ρ (fun r H' => (ks = [] ∧ r = .tup [.v (.bool false)] ∧ H' = H) ∨ ∃ (i : Nat) (k : Value) (t : T), ks[i]? = some k ∧ ts[i]? = some t ∧ r = .tup [.v (.bool true), .v k, t] ∧ H' = setH H b (.o (iterP (some (k, t)) (ks.eraseIdx i) (ts.eraseIdx i)))) :=
  ⟨fun c h => (by cases h), fun X0 M ρ' hS hρ => by
    classical
    obtain ⟨B, o, h1, h2, h3, h4, hp, h7⟩ := own_ptr hS hb (hρ x _ hx)
    have hex : ∀ {u w}, (Instr.next (.pointer (some ⟨B, 0, none⟩)) false ty).run P M.w = .ok u w → (execOp ρ' ⟨d, .next x false, ty, pos, after, none⟩).run P M.w = .ok (.value u) w := fun h => by
      simp only [execOp, h1, Sem.run_bind, h, Result.andThen_ok]; rfl
    have hp : iterIs _ _ _ M o := hp
    rcases hp with ⟨rfl, rfl, rfl, hc0⟩ | ⟨r, es, n, seen, us, es', rfl, g1, g2, g3, g4, g5, rfl, rfl, g8, g9⟩
    · refine ⟨.tup [.v (.bool false)], H, M, .inl ⟨.tuple #[.bool false], hex ?_, [.bool false], rfl, .bool false, [], rfl, rfl, rfl⟩, Evo.refl _ _, hS, .inl ⟨rfl, rfl, rfl⟩⟩
      simp [Instr.next, getObj, Sem.run, h3, Result.andThen]
    · rcases run_next_at (P := P) M.w ty B r n n seen es n h3 g2 g4 (Nat.le_refl _) with ⟨e0, hr⟩ | ⟨e, he, w1, hw1, hr⟩
      · have hnil : es' = [] := by
          have : es'.length = (leftOf es seen).toList.length := List.Perm.length_eq g5
          exact List.eq_nil_of_length_eq_zero (this.trans ((Array.length_toList (xs := leftOf es seen)).trans e0))
        exact ⟨.tup [.v (.bool false)], H, M, .inl ⟨.tuple #[.bool false], hex hr, [.bool false], rfl, .bool false, [], rfl, rfl, rfl⟩, Evo.refl _ _, hS, .inl ⟨by rw [hnil]; rfl, rfl, rfl⟩⟩
      · obtain ⟨i, hi⟩ := List.mem_iff_getElem?.1 (g5.mem_iff.2 he)
        have hes : e ∈ es.toList := by
          unfold leftOf at he
          rw [Array.toList_filter] at he
          exact (List.mem_filter.1 he).1
        obtain ⟨t, ht⟩ : ∃ t, ts[i]? = some t := by
          have hl := g8.length
          have := (List.getElem?_eq_some_iff.1 hi).1
          simp at hl
          exact ⟨ts[i]'(by omega), List.getElem?_eq_getElem _⟩
        obtain ⟨v, hv1, hv2⟩ := g8.get i t ht
        rw [List.getElem?_map, hi] at hv1
        simp at hv1; subst hv1
       
        have hE1 : Evo X0 M ⟨M.β, M.X, w1⟩ := by
          rcases hw1 with rfl | rfl
          · exact Evo.refl _ _
          · exact ⟨fun _ _ h => h, fun _ _ h => h, fun _ _ _ => rfl, fun _ _ h => h, rfl, ⟨rfl, fun _ => Nat.le_succ _⟩, rfl, Nat.le_refl _⟩
        have hh1 : w1.heap = M.w.heap := by rcases hw1 with rfl | rfl <;> rfl
        have hS1 : SimH H X0 ⟨M.β, M.X, w1⟩ := hS.world hE1 (fun B _ => by rw [hh1])
        have hbn : (((leftOf es seen).toList).map (·.born)).Nodup := by
          unfold leftOf
          rw [Array.toList_filter]
          exact g3.sublist (List.filter_sublist.map _)
        have hbn' : (es'.map (·.born)).Nodup := (g5.map _).nodup_iff.2 hbn
        have hper : (es'.eraseIdx i).Perm (leftOf es (seen.push e.born)).toList := by
          have e2 : es'.filter (fun x => decide (x.born ≠ e.born)) = es'.eraseIdx i := by
            rw [← filter_at (f := (·.born)) hbn' hi]
            exact List.filter_congr fun x _ => decide_eq_decide.2 Iff.rfl
          rw [left_push, ← e2]
          exact g5.filter _
        have her : RepL M (ts.eraseIdx i) ((es'.map (·.val)).eraseIdx i) := repL_of (by rw [List.length_eraseIdx, List.length_eraseIdx, g8.length]) fun a t ha => by
          rw [List.getElem?_eraseIdx] at ha ⊢
          split at ha
          · rename_i hlt; rw [if_pos hlt]; exact g8.get a t ha
          · rename_i hlt; rw [if_neg hlt]; exact g8.get _ t ha
        have hp' : iterIs (some (e.key, t)) ((es'.map (·.key)).eraseIdx i) (ts.eraseIdx i) ⟨M.β, M.X, w1⟩ (.mapIter (some r) n (seen.push e.born) n) := by
          refine .inr ⟨r, es, n, seen.push e.born, _, es'.eraseIdx i, rfl, g1, by rw [hh1]; exact g2, g3, g4, hper, erase_map _ _ _, rfl, ?_, fun k t' hc => ?_⟩
          · rw [erase_map]; exact RepL.stays hE1.stays _ _ her
          · injection hc with hc; injection hc with hc1 hc2; subst hc1 hc2
            exact ⟨e, seen, hes, rfl, rfl, Rep.stays hE1.stays _ _ hv2⟩
        obtain ⟨hE2, S⟩ := Sim.writeo (M := ⟨M.β, M.X, w1⟩) (p' := iterP (some (e.key, t)) ((es'.map MapEntry.key).eraseIdx i) (ts.eraseIdx i)) (o' := .mapIter (some r) n (seen.push e.born) n) (w' := setBlock w1 B (.mapIter (some r) n (seen.push e.born) n)) hS1 h2 hb h7 (by rw [hh1]; exact h3) h4 rfl (by simp) hp'
        refine ⟨.tup [.v (.bool true), .v e.key, t], _, _, .inl ⟨.tuple #[.bool true, e.key, e.val], hex hr, [.bool true, e.key, e.val], rfl, .bool true, [e.key, e.val], rfl, rfl, e.key, [e.val], rfl, rfl, e.val, [], rfl, ?_, rfl⟩, hE1.trans hE2, SimH.set (blkH_lt (by rw [hb]; simp)) S, .inr ⟨i, e.key, t, ?_, ht, rfl, rfl⟩⟩
        · exact Rep.stays (hE1.trans hE2).stays _ _ hv2
        · rw [List.getElem?_map, hi]; rfl⟩
end
end
section
open Go.RowKit
section
variable {P : Program} {tab : Tab} {im : List Nat} {ds : List (Option Nat)} {l : List Oper} {E : Env} {H : Hp} {K : Env → Hp → Prop}
theorem VX.range [Dr] (hT : TabOk P tab) {d t ty : Nat} {pos : String} {after : Array Edge} {x : Operand} {i : TyI} {kt et : Nat} {a : T} {ks : List Value} {ts : List T} (hi : tab t = some i) (hik : i.k = .mp kt et) (hx : E.opd x = some a) (ha : a = .mp ks ts ∨ (a = .v (.map none) ∧ ks = [] ∧ ts = []))
    (q : VX false P tab im ds l ((d, .ptr H.length 0) :: E) (H ++ [.o (iterP none ks ts)]) K) : VX false P tab im ds (⟨some d, .range t x, ty, pos, after, none⟩ :: l) E H K := by
  intro E2 he
  show vcGuard ds E2 _ _ _
  unfold vcGuard
  show ExtT P _ H E2.opd _
  exact (ext_range hT hi hik (he.opd hx) ha).mono fun t H' ⟨h1, h2⟩ => by subst h1 h2; exact q _ (he.put (some d) _)
theorem VX.next [Dr] {d ty : Nat} {pos : String} {after : Array Edge} {x : Operand} {b : Nat} {c : Option (Value × T)} {ks : List Value} {ts : List T} (hx : E.opd x = some (.ptr b 0)) (hb : blkH H b = .o (iterP c ks ts))
    (q0 : ks = [] → VX false P tab im ds l ((d, .tup [.v (.bool false)]) :: E) H K)
    (q1 : ∀ (i : Nat) (k : Value) (t : T), ks[i]? = some k → ts[i]? = some t → VX false P tab im ds l ((d, .tup [.v (.bool true), .v k, t]) :: E) (setH H b (.o (iterP (some (k, t)) (ks.eraseIdx i) (ts.eraseIdx i)))) K) :
    VX false P tab im ds (⟨some d, .next x false, ty, pos, after, none⟩ :: l) E H K := by
  intro E2 he
  show vcGuard ds E2 _ _ _
  unfold vcGuard
  show ExtT P _ H E2.opd _
  refine (ext_next (he.opd hx) hb).mono fun t H' h => ?_
  rcases h with ⟨h1, h2, h3⟩ | ⟨i, k, t', h1, h2, h3, h4⟩
  · subst h2 h3; exact q0 h1 _ (he.put (some d) _)
  · subst h3 h4; exact q1 i k t' h1 h2 _ (he.put (some d) _)
end
/- the bytes of a string -/
def bytL (s : ByteArray) : List T := s.data.toList.map fun c => T.v (.int .u8 c.toNat)
section
variable {P : Program} {tab : Tab} {H : Hp} {ρ : EnvF}
theorem ext_bytes [Dr] (hT : TabOk P tab) {t1 t2 e : Nat} {i j q : TyI} (hi : tab t1 = some i) (hik : i.k = .str) (hj : tab t2 = some j) (hjk : j.k = .sl e) (hq : tab e = some q) (hqk : q.k = .int .u8) (hz : q.sz = 1) {d : Option Nat} {ty : TypeId} {pos : String} {after : Array Edge} {x : Operand} {s : ByteArray} (hx : ρ x = some (.v (.string s))) (hs : s.size ≤ 2 ^ 47) :
    ExtT P ⟨d, .convert t1 t2 x, ty, pos, after, none⟩ H ρ (fun r H' => r = .slc H.length 0 s.size 1 none ∧ H' = H ++ [.c (bytL s)]) :=
  ⟨fun c h => (by cases h), fun X0 M ρ' hS hρ => by
    obtain ⟨D1, h1, k1⟩ := (hT t1 i hi).kind
    obtain ⟨D2, h2, k2⟩ := (hT t2 j hj).kind
    obtain ⟨D3, h3, k3⟩ := (hT e q hq).kind
    rw [hik] at k1; rw [hjk] at k2; rw [hqk] at k3
    cases D1 <;> simp only [kdOk] at k1
    cases D2 <;> simp only [kdOk] at k2
    cases D3 <;> simp only [kdOk] at k3
    subst k2 k3
    have hv : ρ' x = .string s := hρ x _ hx
    rename_i e
    have hrun := Lib.run_convert_string_bytes (P := P) M.w t1 t2 e s h1 h2 h3
    have hheap : (Lib.bytesWorld M.w e s).heap = M.w.heap.push (.cells (Lib.bytesCells M.w e s) e ((Lib.bytesCells M.w e s).size, (Lib.bytesCells M.w e s).size + 1)) := by
      refine Array.ext_getElem? fun b => ?_
      rw [heap_push]
      by_cases hb : b = M.w.heap.size
      · subst hb; rw [if_pos rfl]; exact Lib.bytesWorld_at_new M.w e s
      · rw [if_neg hb]
        rcases Nat.lt_or_ge b M.w.heap.size with hlt | hge
        · exact Lib.bytesWorld_at_old M.w e s b hlt
        · rw [Array.getElem?_eq_none (by rw [Lib.bytesWorld_size]; omega), Array.getElem?_eq_none hge]
    have hcap1 : s.size ≤ grownCap M.w s.size 0 e := by show _ ≤ s.size + _ % _; omega
    have hcap2 : grownCap M.w s.size 0 e ≤ maxLen := by
      show s.size + _ % (2 ^ 63 - s.size) ≤ _
      unfold maxLen
      have : ∀ q, q % (2 ^ 63 - s.size) < 2 ^ 63 - s.size := fun q => Nat.mod_lt _ (by omega)
      have := this (M.w.tape M.w.drawn (.appendCap s.size 0 e))
      omega
    have hrep : RepA M (bytL s) (Lib.bytesCells M.w e s) 0 := repA_of fun a t ht => by
      unfold bytL at ht
      rw [List.getElem?_map, Option.map_eq_some_iff] at ht
      obtain ⟨c, h4, rfl⟩ := ht
      refine ⟨.int .u8 c.toNat, ?_, rfl⟩
      unfold Lib.bytesCells
      rw [Nat.zero_add, Array.getElem?_append_left (by have := (List.getElem?_eq_some_iff.1 h4).1; simpa using this), Array.getElem?_map]
      simp at h4
      rw [h4]; rfl
    obtain ⟨hE, S, hsh⟩ := hS.new (nx := H.length) (fun hh => Nat.lt_irrefl _ hh) hheap rfl ⟨rfl, fun _ => Nat.le_succ _⟩ rfl (fun j hj => by simp only; omega) hrep
    refine ⟨.slc H.length 0 s.size 1 none, _, newM M H.length (Lib.bytesWorld M.w e s), .inl ⟨_, by simp only [execOp, hv, Sem.run_bind, hrun, Result.andThen_ok]; rfl, .inr ⟨M.w.heap.size, 0, grownCap M.w s.size 0 e, if_pos rfl, rfl, hcap1, hcap2, fun q hq => (by cases hq), e, (Lib.bytesCells M.w e s).size, hsh, ?_⟩⟩, hE, SimH.push S, rfl, rfl⟩
    unfold Lib.bytesCells
    simp
    have : s.data.size = s.size := rfl
    omega⟩
end
section
variable {P : Program} {tab : Tab} {im : List Nat} {ds : List (Option Nat)} {l : List Oper} {E : Env} {H : Hp} {K : Env → Hp → Prop}
theorem VX.bytes [Dr] (hT : TabOk P tab) {t1 t2 e : Nat} {i j q : TyI} (hi : tab t1 = some i) (hik : i.k = .str) (hj : tab t2 = some j) (hjk : j.k = .sl e) (hq : tab e = some q) (hqk : q.k = .int .u8) (hz : q.sz = 1) {d ty : Nat} {pos : String} {after : Array Edge} {x : Operand} {s : ByteArray} (hx : E.opd x = some (.v (.string s))) (hs : s.size ≤ 2 ^ 47)
    (k : VX false P tab im ds l ((d, .slc H.length 0 s.size 1 none) :: E) (H ++ [.c (bytL s)]) K) : VX false P tab im ds (⟨some d, .convert t1 t2 x, ty, pos, after, none⟩ :: l) E H K := by
  intro E2 he
  show vcGuard ds E2 _ _ _
  unfold vcGuard
  have hn : opM tab (lookH H) H.length E2.opd (.convert t1 t2 x) = none := by
    simp only [opM, he.opd hx, mConv, hi, hj, hik, hjk]
  show vcOp P tab im ⟨some d, .convert t1 t2 x, ty, pos, after, none⟩ E2 H _
  unfold vcOp
  simp only [hn]
  exact (ext_bytes hT hi hik hj hjk hq hqk hz (he.opd hx) hs).mono fun t H' ⟨h1, h2⟩ => by subst h1 h2; exact k _ (he.put (some d) _)
end
theorem Cv.omOld {bs : List Nat} {n j c : Nat} (h : bs[j]? = some c) : Cv (vwOut bs n) (.om j) (.om c) := .om (.inl h)
theorem Cv.omNew {bs : List Nat} {n j : Nat} (h : bs.length ≤ j) : Cv (vwOut bs n) (.om j) (.om (n + (j - bs.length))) := .om (.inr ⟨h, by omega⟩)
theorem CvB_o {v : Vw} {H : Hp} {b : Nat} {p : OP} (h : blkH H b = .o p) : CvB v H (some b) (.o p) := h
end
section
open Go.RowKit
theorem au_wk {p : Prop} (h : p := by repeat' first | exact wkL_refl _ | exact wk_refl _ | exact wk_islc | exact wk_nil | refine wkL_cons ?_ ?_ | refine wk_agg ?_) : p := h
theorem au_pu {p : Prop} (h : p := by first | rfl | (simp only [T.pure, T.pureL, encL_pure, pureL_app, Bool.and_self, *]; done) | fail) : p := h
theorem au_p0 {p : Prop} (h : p := by first | rfl | (simp only [T.pure, T.pureL, encL_pure, pureL_app, Bool.and_self, *]; done) | (simp only [immT, flat, T.pure, T.pureL, encL_pure, pureL_app, Bool.and_self]; done) | fail) : p := h
theorem au_ci {p : Prop} (h : p := by repeat' first | exact Cv.slc rfl (.inl rfl) | exact Cv.slc rfl (.inr rfl) | exact Cv.ptr rfl | exact Cv.pure au_p0 | exact CvL.pure au_p0 | refine CvL.cons ?_ ?_ | exact CvL.nil | refine Cv.agg ?_ | refine Cv.clo ?_ ?_ | refine Cv.iptr ?_ | exact trivial | exact CvIn_nil | refine CvIn_cons rfl ?_ ?_ | exact Cv.om rfl | refine Cv.mp ?_ | refine CvIn_o rfl (by first | assumption | rfl) ?_) : p := h
theorem au_co {p : Prop} (h : p := by repeat' first | exact Cv.slcOld rfl | exact Cv.slcNew (by decide) | exact Cv.ptrOld rfl | exact Cv.ptrNew (by decide) | exact Cv.pure au_p0 | exact CvL.pure au_p0 | apply CvL.cons | exact CvL.nil | apply Cv.agg | apply Cv.clo | apply Cv.iptr | apply Cv.tup | exact CvOut_nil | apply CvOut_c | apply CvOut_d | exact Cv.omOld rfl | exact Cv.omNew (by decide) | apply Cv.mp | apply CvOut_o | assumption) : p := h
theorem au_ct {p : Prop} (h : p := by repeat' first | exact CvL.nil | refine CvL.cons ?_ ?_ | exact Cv.fslcA ⟨rfl, by simp⟩ (CvL.pure au_p0) | exact Cv.fslc0 ⟨rfl, by simp⟩ (CvL.pure au_p0) | exact Cv.pure au_p0 | exact Cv.fom ⟨rfl, by simp⟩ (CvL.pure au_p0)) : p := h
theorem au_sub {p : Prop} (h : p := by repeat' first | exact trivial | refine subL_app ?_ ?_ | refine subL_cons rfl ?_) : p := h
theorem au_l {p : Prop} (h : p := by first | exact encL_part _ (by first | assumption | exact getE (by omega)) (by decide) (by decide) rfl | exact encL_part0 _ (by first | assumption | exact getE (by omega)) (by decide) rfl | exact encL_partA _ (by first | assumption | exact getE (by omega)) (by decide) (by decide) rfl | exact encL_partA0 _ (by first | assumption | exact getE (by omega)) (by decide) rfl) : p := h
theorem au_v {p : Prop} (h : p := by first | exact Cv.om rfl | exact Cv.slc rfl (.inl rfl) | exact Cv.slc rfl (.inr rfl) | exact Cv.ptr rfl | exact Cv.nilv rfl | exact Cv.nil _ (.inl rfl) | exact Cv.pure au_p0 | exact CvL.pure au_p0) : p := h
theorem au_z {p : Prop} (h : p := by exact (Int.toNat_of_nonneg (by omega)).symm) : p := h
theorem au_std : (∀ a b : Bool, ((a && b) = true) = (a = true ∧ b = true)) ∧ (∀ a b : Bool, ((a || b) = true) = (a = true ∨ b = true)) ∧ (∀ a b : Bool, ((a && b) = false) = (a = true → b = false)) ∧ (∀ a b : Bool, ((a || b) = false) = (a = false ∧ b = false)) ∧
    (∀ b : Bool, ((!b) = true) = (b = false)) ∧ (∀ b : Bool, ((!b) = false) = (b = true)) ∧ (∀ {α : Type} [BEq α] [LawfulBEq α] (a b : α), ((a == b) = true) = (a = b)) ∧ (∀ {α : Type} [BEq α] [LawfulBEq α] (a b : α), ((a != b) = true) = (¬ a = b)) ∧
    (∀ {α : Type} [BEq α] [LawfulBEq α] (a b : α), ((a == b) = false) = (¬ a = b)) ∧ (∀ {α : Type} [BEq α] [LawfulBEq α] (a b : α), ((a != b) = false) = (a = b)) ∧ (∀ {α : Type} (a b : α), (a ≠ b) = (¬ a = b)) ∧ (∀ (p : Prop) [Decidable p], (decide p = true) = p) ∧ (∀ (p : Prop) [Decidable p], (decide p = false) = (¬ p)) ∧
    (∀ a b : Int, (¬ a ≤ b) = (b < a)) ∧ (∀ a b : Int, (¬ a < b) = (b ≤ a)) ∧ (∀ {α : Type} [LE α] (a b : α), (a ≥ b) = (b ≤ a)) ∧ (∀ {α : Type} [LT α] (a b : α), (a > b) = (b < a)) := by
  refine ⟨?_, ?_, ?_, ?_, ?_, ?_, ?_, ?_, ?_, ?_, ?_, ?_, ?_, ?_, ?_, ?_, ?_⟩
  · intro a b; cases a <;> cases b <;> simp
  · intro a b; cases a <;> cases b <;> simp
  · intro a b; cases a <;> cases b <;> simp
  · intro a b; cases a <;> cases b <;> simp
  · intro b; cases b <;> simp
  · intro b; cases b <;> simp
  · intro α _ _ a b; simp
  · intro α _ _ a b; simp
  · intro α _ _ a b; simp
  · intro α _ _ a b; simp
  · intro α a b; rfl
  · intro p _; simp
  · intro p _; simp
  · intro a b; simp
  · intro a b; simp
  · intro α _ a b; rfl
  · intro α _ a b; rfl
end
section
structure Rect where
  X : Int
  Y : Int
  W : Int
  H : Int
instance : Inhabited Rect := ⟨⟨0, 0, 0, 0⟩⟩
def Rect.has (r : Rect) (x y : Int) : Prop := r.X ≤ x ∧ x < r.X + r.W ∧ r.Y ≤ y ∧ y < r.Y + r.H
instance (r : Rect) (x y : Int) : Decidable (r.has x y) := by unfold Rect.has; infer_instance
def inL (l : List Rect) (x y : Int) : Prop := ∃ r ∈ l, r.has x y
instance (l : List Rect) (x y : Int) : Decidable (inL l x y) := by unfold inL; infer_instance
theorem inL_nil {x y : Int} : ¬ inL [] x y := fun ⟨_, h, _⟩ => by cases h
theorem inL_cons {r : Rect} {l : List Rect} {x y : Int} : inL (r :: l) x y ↔ r.has x y ∨ inL l x y := by simp [inL]
theorem inL_append {a b : List Rect} {x y : Int} : inL (a ++ b) x y ↔ inL a x y ∨ inL b x y := by
  simp only [inL, List.mem_append]
  constructor
  · rintro ⟨r, h | h, k⟩
    · exact .inl ⟨r, h, k⟩
    · exact .inr ⟨r, h, k⟩
  · rintro (⟨r, h, k⟩ | ⟨r, h, k⟩)
    · exact ⟨r, .inl h, k⟩
    · exact ⟨r, .inr h, k⟩
abbrev Span := Int × Int
def inS (s : List Span) (x : Int) : Prop := ∃ p ∈ s, p.1 ≤ x ∧ x < p.2
theorem inS_nil {x : Int} : ¬ inS [] x := fun ⟨_, h, _⟩ => by cases h
theorem inS_cons {p : Span} {s : List Span} {x : Int} : inS (p :: s) x ↔ (p.1 ≤ x ∧ x < p.2) ∨ inS s x := by simp [inS]
def spansOk : Int → List Span → Prop
  | _, [] => True
  | lo, p :: s => lo < p.1 ∧ p.1 < p.2 ∧ spansOk p.2 s
theorem spansOk_lo : ∀ {s : List Span} {lo : Int}, spansOk lo s → ∀ x, inS s x → lo < x
  | [], _, _, x, h => absurd h inS_nil
  | p :: s, lo, ⟨h1, h2, h3⟩, x, h => by
    rcases inS_cons.1 h with h | h
    · omega
    · have := spansOk_lo h3 x h; omega
theorem spans_uniq : ∀ {s t : List Span} {lo lo' : Int}, spansOk lo s → spansOk lo' t → (∀ x, inS s x ↔ inS t x) → s = t
  | [], [], _, _, _, _, _ => rfl
  | [], p :: t, _, _, _, ⟨h1, h2, h3⟩, h => absurd ((h p.1).2 (inS_cons.2 (.inl ⟨by omega, h2⟩))) inS_nil
  | p :: s, [], _, _, ⟨h1, h2, h3⟩, _, h => absurd ((h p.1).1 (inS_cons.2 (.inl ⟨by omega, h2⟩))) inS_nil
  | p :: s, q :: t, _, _, ⟨h1, h2, h3⟩, ⟨k1, k2, k3⟩, h => by
    have inp : ∀ {x : Int}, inS (p :: s) x → p.1 ≤ x := fun hx => by
      rcases inS_cons.1 hx with hx | hx
      · exact hx.1
      · have := spansOk_lo h3 _ hx; omega
    have inq : ∀ {x : Int}, inS (q :: t) x → q.1 ≤ x := fun hx => by
      rcases inS_cons.1 hx with hx | hx
      · exact hx.1
      · have := spansOk_lo k3 _ hx; omega
    have e1 : p.1 = q.1 := by
      have a := inq ((h p.1).1 (inS_cons.2 (.inl ⟨by omega, h2⟩)))
      have b := inp ((h q.1).2 (inS_cons.2 (.inl ⟨by omega, k2⟩)))
      omega
    have e2 : p.2 = q.2 := by
      rcases Int.lt_trichotomy p.2 q.2 with hlt | heq | hgt
      · have := (h p.2).2 (inS_cons.2 (.inl ⟨by omega, hlt⟩))
        rcases inS_cons.1 this with hx | hx
        · omega
        · have := spansOk_lo h3 _ hx; omega
      · exact heq
      · have := (h q.2).1 (inS_cons.2 (.inl ⟨by omega, hgt⟩))
        rcases inS_cons.1 this with hx | hx
        · omega
        · have := spansOk_lo k3 _ hx; omega
    have e3 : s = t := spans_uniq h3 k3 fun x => by
      have := h x
      rw [inS_cons, inS_cons, e1, e2] at this
      constructor
      · intro hx
        rcases this.1 (.inr hx) with hy | hy
        · have := spansOk_lo h3 _ hx; omega
        · exact hy
      · intro hx
        rcases this.2 (.inr hx) with hy | hy
        · have := spansOk_lo k3 _ hx; omega
        · exact hy
    rw [e3, show p = q from Prod.ext e1 e2]

/- bands -/
structure Band where
  y : Int
  e : Int
  s : List Span
def Band.rects (b : Band) : List Rect := b.s.map fun p => ⟨p.1, b.y, p.2 - p.1, b.e - b.y⟩
def rectsOf (l : List Band) : List Rect := l.flatMap Band.rects
def inB (l : List Band) (x y : Int) : Prop := ∃ b ∈ l, b.y ≤ y ∧ y < b.e ∧ inS b.s x
def bandOk (b : Band) : Prop := b.y < b.e ∧ b.s ≠ [] ∧ spansOk (-1048577) b.s
def bandsOk : List Band → Prop
  | [] => True
  | b :: l => bandOk b ∧ (match l with | [] => True | c :: _ => b.e ≤ c.y ∧ (b.e = c.y → b.s ≠ c.s)) ∧ bandsOk l
theorem inB_nil {x y : Int} : ¬ inB [] x y := fun ⟨_, h, _⟩ => by cases h
theorem inB_cons {b : Band} {l : List Band} {x y : Int} : inB (b :: l) x y ↔ (b.y ≤ y ∧ y < b.e ∧ inS b.s x) ∨ inB l x y := by simp [inB]
theorem inB_append {a b : List Band} {x y : Int} : inB (a ++ b) x y ↔ inB a x y ∨ inB b x y := by
  constructor
  · rintro ⟨p, h, k⟩
    rcases List.mem_append.1 h with h | h
    · exact .inl ⟨p, h, k⟩
    · exact .inr ⟨p, h, k⟩
  · rintro (⟨p, h, k⟩ | ⟨p, h, k⟩)
    · exact ⟨p, List.mem_append.2 (.inl h), k⟩
    · exact ⟨p, List.mem_append.2 (.inr h), k⟩
theorem inL_band (b : Band) (x y : Int) : inL b.rects x y ↔ b.y ≤ y ∧ y < b.e ∧ inS b.s x := by
  unfold Band.rects inL inS Rect.has
  constructor
  · rintro ⟨r, h, k⟩
    obtain ⟨p, h1, rfl⟩ := List.mem_map.1 h
    simp only at k
    exact ⟨by omega, by omega, p, h1, by omega, by omega⟩
  · rintro ⟨h1, h2, p, h3, h4, h5⟩
    exact ⟨_, List.mem_map.2 ⟨p, h3, rfl⟩, by simp only; omega⟩
theorem inL_rectsOf : ∀ (l : List Band) (x y : Int), inL (rectsOf l) x y ↔ inB l x y
  | [], x, y => ⟨fun h => absurd h inL_nil, fun h => absurd h inB_nil⟩
  | b :: l, x, y => by
    rw [show rectsOf (b :: l) = b.rects ++ rectsOf l from rfl, inL_append, inB_cons, inL_band, inL_rectsOf l]
theorem bandsOk_lo : ∀ {l : List Band}, bandsOk l → ∀ b r, l = b :: r → ∀ x y, inB r x y → b.e ≤ y
  | b :: [], _, _, _, rfl, x, y, h => absurd h inB_nil
  | b :: c :: l, ⟨h1, h2, h3⟩, _, _, rfl, x, y, h => by
    rcases inB_cons.1 h with h | h
    · omega
    · have := bandsOk_lo h3 c l rfl x y h
      have := h3.1.1
      omega
theorem spans_some {b : Band} (h : bandOk b) : ∃ x, inS b.s x := by
  obtain ⟨h1, h2, h3⟩ := h
  cases hs : b.s with
  | nil => exact absurd hs h2
  | cons p s => rw [hs] at h3; exact ⟨p.1, inS_cons.2 (.inl ⟨by omega, h3.2.1⟩)⟩
theorem band_end {b : Band} {l : List Band} (h : bandsOk (b :: l)) {s : List Span} {lo : Int} (hs : spansOk lo s) (hrow : ∀ x, inB (b :: l) x b.e ↔ inS s x) : s ≠ b.s := by
  intro e
  obtain ⟨h1, h2, h3⟩ := h
  cases l with
  | nil =>
    obtain ⟨x, hx⟩ := spans_some h1
    have := (hrow x).2 (by rw [e]; exact hx)
    rcases inB_cons.1 this with h | h
    · omega
    · exact inB_nil h
  | cons c l =>
    obtain ⟨k1, k2⟩ := h2
    obtain ⟨x, hx⟩ := spans_some h1
    have hin := (hrow x).2 (by rw [e]; exact hx)
    have hce : b.e = c.y := by
      rcases inB_cons.1 hin with h | h
      · omega
      · rcases inB_cons.1 h with h | h
        · omega
        · have := bandsOk_lo h3 c l rfl x _ h; have := h3.1.1; omega
    refine k2 hce ?_
    rw [← e]
    refine spans_uniq hs h3.1.2.2 fun x => ?_
    rw [← hrow x, inB_cons, inB_cons]
    constructor
    · rintro (h | h | h)
      · omega
      · exact h.2.2
      · have := bandsOk_lo h3 c l rfl x _ h; have := h3.1.1; omega
    · intro h; exact .inr (.inl ⟨by omega, by have := h3.1.1; omega, h⟩)
theorem bands_uniq : ∀ {a b : List Band}, bandsOk a → bandsOk b → (∀ x y, inB a x y ↔ inB b x y) → a = b
  | [], [], _, _, _ => rfl
  | [], c :: b, _, h, k => by
    obtain ⟨x, hx⟩ := spans_some h.1
    exact absurd ((k x c.y).2 (inB_cons.2 (.inl ⟨by omega, h.1.1, hx⟩))) inB_nil
  | c :: a, [], h, _, k => by
    obtain ⟨x, hx⟩ := spans_some h.1
    exact absurd ((k x c.y).1 (inB_cons.2 (.inl ⟨by omega, h.1.1, hx⟩))) inB_nil
  | c :: a, d :: b, ha, hb, k => by
    have la : ∀ {x y : Int}, inB (c :: a) x y → c.y ≤ y := fun h => by
      rcases inB_cons.1 h with h | h
      · exact h.1
      · have := bandsOk_lo ha c a rfl _ _ h; have := ha.1.1; omega
    have lb : ∀ {x y : Int}, inB (d :: b) x y → d.y ≤ y := fun h => by
      rcases inB_cons.1 h with h | h
      · exact h.1
      · have := bandsOk_lo hb d b rfl _ _ h; have := hb.1.1; omega
    have e1 : c.y = d.y := by
      obtain ⟨x, hx⟩ := spans_some ha.1
      obtain ⟨z, hz⟩ := spans_some hb.1
      have := lb ((k x c.y).1 (inB_cons.2 (.inl ⟨by omega, ha.1.1, hx⟩)))
      have := la ((k z d.y).2 (inB_cons.2 (.inl ⟨by omega, hb.1.1, hz⟩)))
      omega
    have rowa : ∀ x y, c.y ≤ y → y < c.e → (inB (c :: a) x y ↔ inS c.s x) := fun x y h1 h2 => by
      rw [inB_cons]
      constructor
      · rintro (h | h)
        · exact h.2.2
        · have := bandsOk_lo ha c a rfl _ _ h; omega
      · intro h; exact .inl ⟨h1, h2, h⟩
    have rowb : ∀ x y, d.y ≤ y → y < d.e → (inB (d :: b) x y ↔ inS d.s x) := fun x y h1 h2 => by
      rw [inB_cons]
      constructor
      · rintro (h | h)
        · exact h.2.2
        · have := bandsOk_lo hb d b rfl _ _ h; omega
      · intro h; exact .inl ⟨h1, h2, h⟩
    have e2 : c.s = d.s := spans_uniq ha.1.2.2 hb.1.2.2 fun x => by
      rw [← rowa x c.y (Int.le_refl _) ha.1.1, ← rowb x c.y (by omega) (by have := hb.1.1; omega)]; exact k x c.y
    have e3 : c.e = d.e := by
      rcases Int.lt_trichotomy c.e d.e with h | h | h
      · exact absurd e2.symm (band_end ha hb.1.2.2 fun x => by rw [k x c.e]; exact rowb x c.e (by have := ha.1.1; omega) h)
      · exact h
      · exact absurd e2 (band_end hb ha.1.2.2 fun x => by rw [← k x d.e]; exact rowa x d.e (by have := hb.1.1; omega) h)
    have e4 : a = b := by
      refine bands_uniq ha.2.2 hb.2.2 fun x y => ?_
      have := k x y
      rw [inB_cons, inB_cons] at this
      constructor
      · intro h
        have h1 := bandsOk_lo ha c a rfl _ _ h
        rcases this.1 (.inr h) with h2 | h2
        · omega
        · exact h2
      · intro h
        have h1 := bandsOk_lo hb d b rfl _ _ h
        rcases this.2 (.inr h) with h2 | h2
        · omega
        · exact h2
    rw [e4, show c = d from by cases c; cases d; simp_all]
def Canon (l : List Rect) : Prop := ∃ bs, bandsOk bs ∧ l = rectsOf bs
theorem canon_uniq {a b : List Rect} (ha : Canon a) (hb : Canon b) (h : ∀ x y, inL a x y ↔ inL b x y) : a = b := by
  obtain ⟨bs, h1, rfl⟩ := ha
  obtain ⟨cs, h2, rfl⟩ := hb
  rw [bands_uniq h1 h2 fun x y => by rw [← inL_rectsOf, ← inL_rectsOf]; exact h x y]
end
section
def spansGo (from_ to : Int) : List Rect → List Span
  | [] => [(from_, to)]
  | r :: l => if r.X ≤ to then spansGo from_ (max to (r.X + r.W)) l else (from_, to) :: spansGo r.X (r.X + r.W) l
def spansF : List Rect → List Span
  | [] => []
  | r :: l => spansGo r.X (r.X + r.W) l
def sortX : List Rect → Prop
  | [] => True
  | r :: l => (∀ s ∈ l, r.X ≤ s.X) ∧ sortX l
def rowIn (l : List Rect) (x : Int) : Prop := ∃ r ∈ l, r.X ≤ x ∧ x < r.X + r.W
theorem spansGo_ok : ∀ (l : List Rect) (a b lo : Int), lo < a → a < b → (∀ r ∈ l, a ≤ r.X ∧ 0 < r.W) → sortX l → spansOk lo (spansGo a b l) ∧ ∀ x, inS (spansGo a b l) x ↔ (a ≤ x ∧ x < b) ∨ rowIn l x
  | [], a, b, lo, h1, h2, _, _ => ⟨⟨h1, h2, trivial⟩, fun x => by simp [spansGo, inS, rowIn]⟩
  | r :: l, a, b, lo, h1, h2, h3, ⟨h4, h5⟩ => by
    have hr := h3 r List.mem_cons_self
    have hl : ∀ s ∈ l, r.X ≤ s.X ∧ 0 < s.W := fun s hs => ⟨h4 s hs, (h3 s (List.mem_cons_of_mem _ hs)).2⟩
    have rc : ∀ x, rowIn (r :: l) x ↔ (r.X ≤ x ∧ x < r.X + r.W) ∨ rowIn l x := fun x => by simp [rowIn]
    unfold spansGo
    split
    · rename_i hc
      obtain ⟨k1, k2⟩ := spansGo_ok l a (max b (r.X + r.W)) lo h1 (by omega) (fun s hs => ⟨by have := hl s hs; omega, (hl s hs).2⟩) h5
      refine ⟨k1, fun x => ?_⟩
      rw [k2, rc]
      constructor
      · rintro (h | h)
        · by_cases hx : x < b
          · exact .inl ⟨h.1, hx⟩
          · exact .inr (.inl (by omega))
        · exact .inr (.inr h)
      · rintro (h | h | h)
        · exact .inl (by omega)
        · exact .inl (by omega)
        · exact .inr h
    · rename_i hc
      obtain ⟨k1, k2⟩ := spansGo_ok l r.X (r.X + r.W) b (by omega) (by omega) hl h5
      refine ⟨⟨h1, h2, k1⟩, fun x => ?_⟩
      rw [inS_cons, k2, rc]
theorem spansF_ok {l : List Rect} {lo : Int} (h : ∀ r ∈ l, lo < r.X ∧ 0 < r.W) (hs : sortX l) : spansOk lo (spansF l) ∧ ∀ x, inS (spansF l) x ↔ rowIn l x := by
  cases l with
  | nil => exact ⟨trivial, fun x => by simp [spansF, inS, rowIn]⟩
  | cons r l =>
    have hr := h r List.mem_cons_self
    obtain ⟨k1, k2⟩ := spansGo_ok l r.X (r.X + r.W) lo hr.1 (by omega) (fun s hq => ⟨hs.1 s hq, (h s (List.mem_cons_of_mem _ hq)).2⟩) hs.2
    exact ⟨k1, fun x => by rw [show spansF (r :: l) = spansGo r.X (r.X + r.W) l from rfl, k2]; simp [rowIn]⟩
theorem spansGo_length : ∀ (l : List Rect) (a b : Int), (spansGo a b l).length ≤ l.length + 1
  | [], _, _ => by simp [spansGo]
  | r :: l, a, b => by
    unfold spansGo
    split
    · have := spansGo_length l a (max b (r.X + r.W)); simp only [List.length_cons]; omega
    · have := spansGo_length l r.X (r.X + r.W); simp only [List.length_cons]; omega
theorem spansF_length (l : List Rect) : (spansF l).length ≤ l.length := by
  cases l with
  | nil => simp [spansF]
  | cons r l => exact spansGo_length l _ _
theorem rectsOf_append (a b : List Band) : rectsOf (a ++ b) = rectsOf a ++ rectsOf b := by simp [rectsOf]
theorem rectsOf_one (b : Band) : rectsOf [b] = b.rects := by simp [rectsOf]
theorem bandsOk_append_last : ∀ {l : List Band} {b : Band}, bandsOk l → bandOk b → (∀ c ∈ l, c.e ≤ b.y) → (∀ c, l.getLast? = some c → c.e = b.y → c.s ≠ b.s) → bandsOk (l ++ [b])
  | [], b, _, h, _, _ => ⟨h, trivial, trivial⟩
  | [c], b, h, hb, h1, h2 => ⟨h.1, ⟨h1 c (by simp), h2 c (by simp)⟩, hb, trivial, trivial⟩
  | c :: d :: l, b, h, hb, h1, h2 => ⟨h.1, h.2.1, bandsOk_append_last h.2.2 hb (fun e he => h1 e (List.mem_cons_of_mem _ he)) (fun e he => h2 e (by simpa using he))⟩
theorem bandsOk_init : ∀ {l : List Band} {b : Band}, bandsOk (l ++ [b]) → bandsOk l ∧ bandOk b ∧ (∀ c ∈ l, c.e ≤ b.y) ∧ (∀ c, l.getLast? = some c → c.e = b.y → c.s ≠ b.s)
  | [], b, h => ⟨trivial, h.1, by simp, by simp⟩
  | [c], b, ⟨h1, ⟨h2, h3⟩, h4, _⟩ => ⟨⟨h1, trivial, trivial⟩, h4, by simpa using h2, by simpa using h3⟩
  | c :: d :: l, b, ⟨h1, h2, h3⟩ => by
    obtain ⟨k1, k2, k3, k4⟩ := bandsOk_init (l := d :: l) h3
    refine ⟨⟨h1, h2, k1⟩, k2, fun e he => ?_, fun e he => k4 e (by simpa using he)⟩
    rcases List.mem_cons.1 he with rfl | he
    · have hd := k3 d List.mem_cons_self
      have := h2.1
      have := k1.1.1
      omega
    · exact k3 e he
def AtRow (all : List Rect) (y : Int) (out : List Rect) (above : Nat) : Prop :=
  ∃ bs, bandsOk bs ∧ out = rectsOf bs ∧ (∀ b ∈ bs, b.e ≤ y) ∧ (∀ x z, inB bs x z ↔ inL all x z ∧ z < y) ∧
    ((∃ b0 b, bs = b0 ++ [b] ∧ b.e = y ∧ above = (rectsOf b0).length) ∨ (above = out.length ∧ ∀ b ∈ bs, b.e < y))
theorem AtRow.next {all : List Rect} {y e : Int} {out : List Rect} {above : Nat} {s : List Span} (h : AtRow all y out above) (hye : y < e) (hs : spansOk (-1048577) s) (hin : ∀ x z, y ≤ z → z < e → (inL all x z ↔ inS s x)) :
    let new := Band.rects ⟨y, e, s⟩
    let last := out.drop above
    (last ≠ [] ∧ last.map (fun r => (r.X, r.W)) = new.map (fun r => (r.X, r.W)) → AtRow all e (out.take above ++ last.map (fun r => { r with H := r.H + (e - y) })) above) ∧
    (¬ (last ≠ [] ∧ last.map (fun r => (r.X, r.W)) = new.map (fun r => (r.X, r.W))) → AtRow all e (out ++ new) out.length) := by
  obtain ⟨bs, h1, h2, h3, h4, h5⟩ := h
  have spl : ∀ x z, inL all x z ∧ z < e ↔ (inL all x z ∧ z < y) ∨ (y ≤ z ∧ z < e ∧ inS s x) := fun x z => by
    constructor
    · rintro ⟨a, b⟩
      by_cases hz : z < y
      · exact .inl ⟨a, hz⟩
      · exact .inr ⟨by omega, b, (hin x z (by omega) b).1 a⟩
    · rintro (⟨a, b⟩ | ⟨a, b, c⟩)
      · exact ⟨a, by omega⟩
      · exact ⟨(hin x z a b).2 c, b⟩
  have pair : ∀ {b : Band}, (b.rects.map fun r => (r.X, r.W)) = (Band.rects ⟨y, e, s⟩).map (fun r => (r.X, r.W)) → b.s = s := by
    intro b hb
    unfold Band.rects at hb
    simp only [List.map_map] at hb
    have inj : ∀ {p q : List Span}, p.map (fun p : Span => (p.1, p.2 - p.1)) = q.map (fun p : Span => (p.1, p.2 - p.1)) → p = q := by
      intro p
      induction p with
      | nil => intro q hq; cases q; rfl; simp at hq
      | cons a p ih =>
        intro q hq
        cases q with
        | nil => simp at hq
        | cons c q =>
          simp only [List.map_cons, List.cons.injEq, Prod.mk.injEq] at hq
          obtain ⟨⟨e1, e2⟩, e3⟩ := hq
          rw [ih e3, show a = c from Prod.ext e1 (by omega)]
    exact inj hb
  refine ⟨fun ⟨hne, heq⟩ => ?_, fun hno => ?_⟩
  · rcases h5 with ⟨b0, b, rfl, hbe, rfl⟩ | ⟨ha, hlt⟩
    · rw [rectsOf_append, rectsOf_one] at h2
      have hd : out.drop (rectsOf b0).length = b.rects := by rw [h2]; simp
      have ht : out.take (rectsOf b0).length = rectsOf b0 := by rw [h2]; simp
      rw [hd] at heq hne ⊢
      rw [ht]
      have hbs := pair heq
      obtain ⟨k1, k2, k3, k4⟩ := bandsOk_init h1
      have hb' : b.rects.map (fun r => { r with H := r.H + (e - y) }) = Band.rects ⟨b.y, e, b.s⟩ := by
        unfold Band.rects
        rw [List.map_map]
        refine List.map_congr_left fun p _ => ?_
        simp only [Function.comp]
        rw [show b.e - b.y + (e - y) = e - b.y from by omega]
      refine ⟨b0 ++ [⟨b.y, e, b.s⟩], bandsOk_append_last k1 ⟨by have := k2.1; show b.y < e; omega, k2.2.1, k2.2.2⟩ k3 k4, by rw [rectsOf_append, rectsOf_one, hb'], fun c hc => ?_, fun x z => ?_, .inl ⟨b0, _, rfl, rfl, rfl⟩⟩
      · rcases List.mem_append.1 hc with hc | hc
        · have := h3 c (List.mem_append.2 (.inl hc)); omega
        · simp at hc; subst hc; exact Int.le_refl _
      · rw [spl, ← h4, inB_append, inB_append, inB_cons, inB_cons, hbs]
        simp only [hbe]
        constructor
        · rintro (h | h | h)
          · exact .inl (.inl h)
          · by_cases hz : z < y
            · exact .inl (.inr (.inl ⟨h.1, hz, h.2.2⟩))
            · exact .inr ⟨by omega, h.2.1, h.2.2⟩
          · exact absurd h inB_nil
        · rintro ((h | h | h) | h)
          · exact .inl h
          · exact .inr (.inl ⟨h.1, by omega, h.2.2⟩)
          · exact absurd h inB_nil
          · exact .inr (.inl ⟨by have := k2.1; omega, h.2.1, h.2.2⟩)
    · rw [ha, List.drop_length] at hne; exact absurd rfl hne
  · by_cases hse : s = []
    · subst hse
      refine ⟨bs, h1, by rw [h2]; simp [Band.rects], fun b hb => by have := h3 b hb; omega, fun x z => ?_, .inr ⟨by simp [Band.rects], fun b hb => by have := h3 b hb; omega⟩⟩
      rw [h4, spl]
      constructor
      · exact .inl
      · rintro (h | h)
        · exact h
        · exact absurd h.2.2 inS_nil
    · refine ⟨bs ++ [⟨y, e, s⟩], bandsOk_append_last h1 ⟨hye, hse, hs⟩ h3 ?_, by rw [rectsOf_append, rectsOf_one, h2], fun c hc => ?_, fun x z => ?_, .inl ⟨bs, _, rfl, rfl, by rw [h2]⟩⟩
      · intro c hc hce hcs
        simp only at hce hcs
        rcases h5 with ⟨b0, b, rfl, hbe, rfl⟩ | ⟨ha, hlt⟩
        · have : b = c := by simpa using hc
          subst this
          rw [rectsOf_append, rectsOf_one] at h2
          have hd : out.drop (rectsOf b0).length = b.rects := by rw [h2]; simp
          rw [hd] at hno
          refine hno ⟨?_, ?_⟩
          · unfold Band.rects; rw [hcs]; simpa using hse
          · unfold Band.rects; rw [hcs]; simp
        · have := hlt c (List.mem_of_getLast? hc); omega
      · rcases List.mem_append.1 hc with hc | hc
        · have := h3 c hc; omega
        · simp at hc; subst hc; exact Int.le_refl _
      · rw [inB_append, h4, spl, inB_cons]
        constructor
        · rintro (h | h | h)
          · exact .inl h
          · exact .inr h
          · exact absurd h inB_nil
        · rintro (h | h)
          · exact .inl h
          · exact .inr (.inl h)
theorem AtRow.start (all : List Rect) (y : Int) (h : ∀ r ∈ all, y ≤ r.Y) : AtRow all y [] 0 :=
  ⟨[], trivial, rfl, by simp, fun x z => ⟨fun h => absurd h inB_nil, fun ⟨⟨r, h1, h2⟩, h3⟩ => by have := h r h1; unfold Rect.has at h2; omega⟩, .inr ⟨rfl, by simp⟩⟩
theorem AtRow.done {all : List Rect} {y : Int} {out : List Rect} {above : Nat} (h : AtRow all y out above) (hy : ∀ r ∈ all, r.Y + r.H ≤ y) : Canon out ∧ ∀ x z, inL out x z ↔ inL all x z := by
  obtain ⟨bs, h1, h2, h3, h4, h5⟩ := h
  refine ⟨⟨bs, h1, h2⟩, fun x z => ?_⟩
  rw [h2, inL_rectsOf, h4]
  constructor
  · exact And.left
  · intro h
    refine ⟨h, ?_⟩
    obtain ⟨r, k1, k2⟩ := h
    have := hy r k1
    unfold Rect.has at k2
    omega
end
section
open Go.RowKit
set_option maxRecDepth 100000
theorem tyOk_of {P : Program} {t sz by_ : Nat} {zs : List Value} {zero : List T} {k : Kd} {eq : Bool} {D : TypeDesc} (h1 : ((P.info? t).map fun I => (I.size, I.bytes, I.zero.map fun z => z.cells.toList)) = some (sz, by_, some zs)) (h2 : P.underlying t = some D) (hz : zs.map T.v = zero) (hk : kdOk D k) (hl : zs.length = sz)
    (ha : (k.agg || sz == 1) = true) (hf : (match D with | .struct fs => fs.toList.all fun f => (P.info? f.type).isSome | _ => true) = true)
    (hag : ((P.info? t).bind fun I => I.zero.map fun z => z.isAggB) = some k.agg) (he : (!eq || (!P.stoodInHeld t && !P.eqGuardType P.depth t && (match D with | .struct fs => fs.toList.all fun f => f.name != "_" | _ => false))) = true) : TyOk P t ⟨sz, by_, zero, k, eq⟩ := by
  subst hz
  rw [Option.map_eq_some_iff] at h1
  obtain ⟨I, h3, h4⟩ := h1
  injection h4 with h4 h5; injection h5 with h5 h6
  rw [Option.map_eq_some_iff] at h6
  obtain ⟨z, h6, h7⟩ := h6
  refine ⟨⟨I, h3, h4, h5, z, h6, by rw [h7]⟩, ⟨D, h2, hk⟩, by simpa using hl, fun fs hfs => ?_, fun hag => ?_, ⟨I, z, h3, h6, by rw [h3, Option.bind_some, h6] at hag; simpa using hag⟩, fun he' => ?_⟩
  · rw [h2] at hfs; injection hfs with hfs; subst hfs; exact hf
  · rw [hag] at ha; simpa using ha
  · simp only at he'
    subst he'
    simp only [Bool.not_true, Bool.false_or, Bool.and_eq_true, Bool.not_eq_true'] at he
    obtain ⟨⟨e1, e2⟩, e3⟩ := he
    refine ⟨e1, e2, ?_⟩
    cases D <;> first | (cases e3; done) | skip
    rename_i fs
    refine ⟨fs, h2, fun f hf => ?_⟩
    rw [List.all_eq_true] at e3
    simpa using e3 f hf
theorem ty_1 : TyOk Try.prog 1 ⟨1, 8, [.v (.nilFunc)], .fn, false⟩ := tyOk_of (zs := [.nilFunc]) (by kernel_rfl) Try.underlying1 rfl trivial rfl rfl (by kernel_rfl) (by kernel_rfl) (by kernel_rfl)
theorem ty_2 : TyOk Try.prog 2 ⟨1, 8, [.v (.int .i64 0)], .int .i64, false⟩ := tyOk_of (zs := [.int .i64 0]) (by kernel_rfl) Try.underlying2 rfl rfl rfl rfl (by kernel_rfl) (by kernel_rfl) (by kernel_rfl)
theorem ty_3 : TyOk Try.prog 3 ⟨1, 8, [.v (.int .i64 0)], .int .i64, false⟩ := tyOk_of (zs := [.int .i64 0]) (by kernel_rfl) Try.underlying3 rfl rfl rfl rfl (by kernel_rfl) (by kernel_rfl) (by kernel_rfl)
theorem ty_4 : TyOk Try.prog 4 ⟨1, 1, [.v (.bool false)], .bool, false⟩ := tyOk_of (zs := [.bool false]) (by kernel_rfl) Try.underlying4 rfl trivial rfl rfl (by kernel_rfl) (by kernel_rfl) (by kernel_rfl)
theorem ty_5 : TyOk Try.prog 5 ⟨1, 1, [.v (.int .u8 0)], .int .u8, false⟩ := tyOk_of (zs := [.int .u8 0]) (by kernel_rfl) Try.underlying5 rfl rfl rfl rfl (by kernel_rfl) (by kernel_rfl) (by kernel_rfl)
theorem ty_6 : TyOk Try.prog 6 ⟨1, 1, [.v (.int .u8 0)], .int .u8, false⟩ := tyOk_of (zs := [.int .u8 0]) (by kernel_rfl) Try.underlying6 rfl rfl rfl rfl (by kernel_rfl) (by kernel_rfl) (by kernel_rfl)
theorem ty_7 : TyOk Try.prog 7 ⟨4, 24, [.v (.int .i64 0), .v (.int .i64 0), .v (.bool false), .v (.int .u8 0)], .st [(0, 2), (1, 3), (2, 4), (3, 6)], false⟩ := tyOk_of (zs := [.int .i64 0, .int .i64 0, .bool false, .int .u8 0]) (by kernel_rfl) Try.underlying7 rfl rfl rfl rfl (by kernel_rfl) (by kernel_rfl) (by kernel_rfl)
theorem ty_8 : TyOk Try.prog 8 ⟨4, 24, [.v (.int .i64 0), .v (.int .i64 0), .v (.bool false), .v (.int .u8 0)], .st [(0, 2), (1, 3), (2, 4), (3, 6)], false⟩ := tyOk_of (zs := [.int .i64 0, .int .i64 0, .bool false, .int .u8 0]) (by kernel_rfl) Try.underlying8 rfl rfl rfl rfl (by kernel_rfl) (by kernel_rfl) (by kernel_rfl)
theorem ty_9 : TyOk Try.prog 9 ⟨1, 16, [.v (.string ⟨#[]⟩)], .str, false⟩ := tyOk_of (zs := [.string ⟨#[]⟩]) (by kernel_rfl) Try.underlying9 rfl trivial rfl rfl (by kernel_rfl) (by kernel_rfl) (by kernel_rfl)
theorem ty_10 : TyOk Try.prog 10 ⟨1, 16, [.v (.string ⟨#[]⟩)], .str, false⟩ := tyOk_of (zs := [.string ⟨#[]⟩]) (by kernel_rfl) Try.underlying10 rfl trivial rfl rfl (by kernel_rfl) (by kernel_rfl) (by kernel_rfl)
theorem ty_11 : TyOk Try.prog 11 ⟨1, 16, [.v (.string ⟨#[]⟩)], .str, false⟩ := tyOk_of (zs := [.string ⟨#[]⟩]) (by kernel_rfl) Try.underlying11 rfl trivial rfl rfl (by kernel_rfl) (by kernel_rfl) (by kernel_rfl)
theorem ty_12 : TyOk Try.prog 12 ⟨1, 8, [.v (.int .u64 0)], .int .u64, false⟩ := tyOk_of (zs := [.int .u64 0]) (by kernel_rfl) Try.underlying12 rfl rfl rfl rfl (by kernel_rfl) (by kernel_rfl) (by kernel_rfl)
theorem ty_13 : TyOk Try.prog 13 ⟨2, 24, [.v (.string ⟨#[]⟩), .v (.int .u64 0)], .st [(0, 9), (1, 12)], false⟩ := tyOk_of (zs := [.string ⟨#[]⟩, .int .u64 0]) (by kernel_rfl) Try.underlying13 rfl rfl rfl rfl (by kernel_rfl) (by kernel_rfl) (by kernel_rfl)
theorem ty_14 : TyOk Try.prog 14 ⟨2, 24, [.v (.string ⟨#[]⟩), .v (.int .u64 0)], .st [(0, 9), (1, 12)], false⟩ := tyOk_of (zs := [.string ⟨#[]⟩, .int .u64 0]) (by kernel_rfl) Try.underlying14 rfl rfl rfl rfl (by kernel_rfl) (by kernel_rfl) (by kernel_rfl)
theorem ty_15 : TyOk Try.prog 15 ⟨1, 8, [.v (.pointer none)], .ptr 145, false⟩ := tyOk_of (zs := [.pointer none]) (by kernel_rfl) Try.underlying15 rfl rfl rfl rfl (by kernel_rfl) (by kernel_rfl) (by kernel_rfl)
theorem ty_16 : TyOk Try.prog 16 ⟨1, 8, [.v (.pointer none)], .ptr 148, false⟩ := tyOk_of (zs := [.pointer none]) (by kernel_rfl) Try.underlying16 rfl rfl rfl rfl (by kernel_rfl) (by kernel_rfl) (by kernel_rfl)
theorem ty_17 : TyOk Try.prog 17 ⟨1, 8, [.v (.pointer none)], .ptr 155, false⟩ := tyOk_of (zs := [.pointer none]) (by kernel_rfl) Try.underlying17 rfl rfl rfl rfl (by kernel_rfl) (by kernel_rfl) (by kernel_rfl)
theorem ty_18 : TyOk Try.prog 18 ⟨1, 8, [.v (.pointer none)], .st [(0, 17)], false⟩ := tyOk_of (zs := [.pointer none]) (by kernel_rfl) Try.underlying18 rfl rfl rfl rfl (by kernel_rfl) (by kernel_rfl) (by kernel_rfl)
theorem ty_19 : TyOk Try.prog 19 ⟨1, 8, [.v (.pointer none)], .st [(0, 17)], false⟩ := tyOk_of (zs := [.pointer none]) (by kernel_rfl) Try.underlying19 rfl rfl rfl rfl (by kernel_rfl) (by kernel_rfl) (by kernel_rfl)
theorem ty_21 : TyOk Try.prog 21 ⟨1, 4, [.v (.int .i32 0)], .int .i32, false⟩ := tyOk_of (zs := [.int .i32 0]) (by kernel_rfl) Try.underlying21 rfl rfl rfl rfl (by kernel_rfl) (by kernel_rfl) (by kernel_rfl)
theorem ty_22 : TyOk Try.prog 22 ⟨3, 24, [.v (.int .u8 0), .v (.int .u8 0), .v (.string ⟨#[]⟩)], .st [(0, 5), (1, 5), (2, 9)], true⟩ := tyOk_of (zs := [.int .u8 0, .int .u8 0, .string ⟨#[]⟩]) (by kernel_rfl) Try.underlying22 rfl rfl rfl rfl (by kernel_rfl) (by kernel_rfl) (by kernel_rfl)
theorem ty_23 : TyOk Try.prog 23 ⟨3, 24, [.v (.int .u8 0), .v (.int .u8 0), .v (.string ⟨#[]⟩)], .st [(0, 5), (1, 5), (2, 9)], true⟩ := tyOk_of (zs := [.int .u8 0, .int .u8 0, .string ⟨#[]⟩]) (by kernel_rfl) Try.underlying23 rfl rfl rfl rfl (by kernel_rfl) (by kernel_rfl) (by kernel_rfl)
theorem ty_24 : TyOk Try.prog 24 ⟨1, 24, [.v (.slice none 0 0)], .sl 38, false⟩ := tyOk_of (zs := [.slice none 0 0]) (by kernel_rfl) Try.underlying24 rfl rfl rfl rfl (by kernel_rfl) (by kernel_rfl) (by kernel_rfl)
theorem ty_25 : TyOk Try.prog 25 ⟨3, 40, [.v (.int .i64 0), .v (.int .i64 0), .v (.slice none 0 0)], .st [(0, 3), (1, 3), (2, 24)], false⟩ := tyOk_of (zs := [.int .i64 0, .int .i64 0, .slice none 0 0]) (by kernel_rfl) Try.underlying25 rfl rfl rfl rfl (by kernel_rfl) (by kernel_rfl) (by kernel_rfl)
theorem ty_26 : TyOk Try.prog 26 ⟨3, 40, [.v (.int .i64 0), .v (.int .i64 0), .v (.slice none 0 0)], .st [(0, 3), (1, 3), (2, 24)], false⟩ := tyOk_of (zs := [.int .i64 0, .int .i64 0, .slice none 0 0]) (by kernel_rfl) Try.underlying26 rfl rfl rfl rfl (by kernel_rfl) (by kernel_rfl) (by kernel_rfl)
theorem ty_27 : TyOk Try.prog 27 ⟨1, 24, [.v (.slice none 0 0)], .sl 5, false⟩ := tyOk_of (zs := [.slice none 0 0]) (by kernel_rfl) Try.underlying27 rfl rfl rfl rfl (by kernel_rfl) (by kernel_rfl) (by kernel_rfl)
theorem ty_32 : TyOk Try.prog 32 ⟨1, 8, [.v (.int .i64 0)], .int .i64, false⟩ := tyOk_of (zs := [.int .i64 0]) (by kernel_rfl) Try.underlying32 rfl rfl rfl rfl (by kernel_rfl) (by kernel_rfl) (by kernel_rfl)
theorem ty_38 : TyOk Try.prog 38 ⟨1, 1, [.v (.int .u8 0)], .int .u8, false⟩ := tyOk_of (zs := [.int .u8 0]) (by kernel_rfl) Try.underlying38 rfl rfl rfl rfl (by kernel_rfl) (by kernel_rfl) (by kernel_rfl)
theorem ty_46 : TyOk Try.prog 46 ⟨1, 8, [.v (.pointer none)], .ptr 66, false⟩ := tyOk_of (zs := [.pointer none]) (by kernel_rfl) Try.underlying46 rfl rfl rfl rfl (by kernel_rfl) (by kernel_rfl) (by kernel_rfl)
theorem ty_53 : TyOk Try.prog 53 ⟨1, 8, [.v (.pointer none)], .ptr 55, false⟩ := tyOk_of (zs := [.pointer none]) (by kernel_rfl) Try.underlying53 rfl rfl rfl rfl (by kernel_rfl) (by kernel_rfl) (by kernel_rfl)
theorem ty_54 : TyOk Try.prog 54 ⟨2, 32, [.v (.pointer none), .v (.slice none 0 0)], .st [(0, 53), (1, 27)], false⟩ := tyOk_of (zs := [.pointer none, .slice none 0 0]) (by kernel_rfl) Try.underlying54 rfl rfl rfl rfl (by kernel_rfl) (by kernel_rfl) (by kernel_rfl)
theorem ty_55 : TyOk Try.prog 55 ⟨2, 32, [.v (.pointer none), .v (.slice none 0 0)], .st [(0, 53), (1, 27)], false⟩ := tyOk_of (zs := [.pointer none, .slice none 0 0]) (by kernel_rfl) Try.underlying55 rfl rfl rfl rfl (by kernel_rfl) (by kernel_rfl) (by kernel_rfl)
theorem ty_64 : TyOk Try.prog 64 ⟨1, 8, [.v (.nilFunc)], .fn, false⟩ := tyOk_of (zs := [.nilFunc]) (by kernel_rfl) Try.underlying64 rfl trivial rfl rfl (by kernel_rfl) (by kernel_rfl) (by kernel_rfl)
theorem ty_65 : TyOk Try.prog 65 ⟨7, 104, [.v (.int .i64 0), .v (.int .i64 0), .v (.slice none 0 0), .v (.slice none 0 0), .v (.int .i64 0), .v (.int .i64 0), .v (.slice none 0 0)], .st [(0, 3), (1, 3), (2, 24), (3, 24), (4, 26)], false⟩ := tyOk_of (zs := [.int .i64 0, .int .i64 0, .slice none 0 0, .slice none 0 0, .int .i64 0, .int .i64 0, .slice none 0 0]) (by kernel_rfl) Try.underlying65 rfl rfl rfl rfl (by kernel_rfl) (by kernel_rfl) (by kernel_rfl)
theorem ty_66 : TyOk Try.prog 66 ⟨7, 104, [.v (.int .i64 0), .v (.int .i64 0), .v (.slice none 0 0), .v (.slice none 0 0), .v (.int .i64 0), .v (.int .i64 0), .v (.slice none 0 0)], .st [(0, 3), (1, 3), (2, 24), (3, 24), (4, 26)], false⟩ := tyOk_of (zs := [.int .i64 0, .int .i64 0, .slice none 0 0, .slice none 0 0, .int .i64 0, .int .i64 0, .slice none 0 0]) (by kernel_rfl) Try.underlying66 rfl rfl rfl rfl (by kernel_rfl) (by kernel_rfl) (by kernel_rfl)
theorem ty_67 : TyOk Try.prog 67 ⟨1, 24, [.v (.slice none 0 0)], .sl 69, false⟩ := tyOk_of (zs := [.slice none 0 0]) (by kernel_rfl) Try.underlying67 rfl rfl rfl rfl (by kernel_rfl) (by kernel_rfl) (by kernel_rfl)
theorem ty_69 : TyOk Try.prog 69 ⟨1, 24, [.v (.slice none 0 0)], .sl 81, false⟩ := tyOk_of (zs := [.slice none 0 0]) (by kernel_rfl) Try.underlying69 rfl rfl rfl rfl (by kernel_rfl) (by kernel_rfl) (by kernel_rfl)
theorem ty_71 : TyOk Try.prog 71 ⟨1, 24, [.v (.slice none 0 0)], .st [(0, 69)], false⟩ := tyOk_of (zs := [.slice none 0 0]) (by kernel_rfl) Try.underlying71 rfl rfl rfl rfl (by kernel_rfl) (by kernel_rfl) (by kernel_rfl)
theorem ty_72 : TyOk Try.prog 72 ⟨1, 24, [.v (.slice none 0 0)], .st [(0, 69)], false⟩ := tyOk_of (zs := [.slice none 0 0]) (by kernel_rfl) Try.underlying72 rfl rfl rfl rfl (by kernel_rfl) (by kernel_rfl) (by kernel_rfl)
theorem ty_74 : TyOk Try.prog 74 ⟨1, 8, [.v (.int .u64 0)], .int .u64, false⟩ := tyOk_of (zs := [.int .u64 0]) (by kernel_rfl) Try.underlying74 rfl rfl rfl rfl (by kernel_rfl) (by kernel_rfl) (by kernel_rfl)
theorem ty_79 : TyOk Try.prog 79 ⟨1, 8, [.v (.pointer none)], .ptr 5, false⟩ := tyOk_of (zs := [.pointer none]) (by kernel_rfl) Try.underlying79 rfl rfl rfl rfl (by kernel_rfl) (by kernel_rfl) (by kernel_rfl)
theorem ty_80 : TyOk Try.prog 80 ⟨4, 32, [.v (.int .i64 0), .v (.int .i64 0), .v (.int .i64 0), .v (.int .i64 0)], .st [(0, 3), (1, 3), (2, 3), (3, 3)], true⟩ := tyOk_of (zs := [.int .i64 0, .int .i64 0, .int .i64 0, .int .i64 0]) (by kernel_rfl) Try.underlying80 rfl rfl rfl rfl (by kernel_rfl) (by kernel_rfl) (by kernel_rfl)
theorem ty_81 : TyOk Try.prog 81 ⟨4, 32, [.v (.int .i64 0), .v (.int .i64 0), .v (.int .i64 0), .v (.int .i64 0)], .st [(0, 3), (1, 3), (2, 3), (3, 3)], true⟩ := tyOk_of (zs := [.int .i64 0, .int .i64 0, .int .i64 0, .int .i64 0]) (by kernel_rfl) Try.underlying81 rfl rfl rfl rfl (by kernel_rfl) (by kernel_rfl) (by kernel_rfl)
theorem ty_83 : TyOk Try.prog 83 ⟨1, 8, [.v (.nilFunc)], .fn, false⟩ := tyOk_of (zs := [.nilFunc]) (by kernel_rfl) Try.underlying83 rfl trivial rfl rfl (by kernel_rfl) (by kernel_rfl) (by kernel_rfl)
theorem ty_84 : TyOk Try.prog 84 ⟨1, 8, [.v (.nilFunc)], .fn, false⟩ := tyOk_of (zs := [.nilFunc]) (by kernel_rfl) Try.underlying84 rfl trivial rfl rfl (by kernel_rfl) (by kernel_rfl) (by kernel_rfl)
theorem ty_88 : TyOk Try.prog 88 ⟨1, 8, [.v (.nilFunc)], .fn, false⟩ := tyOk_of (zs := [.nilFunc]) (by kernel_rfl) Try.underlying88 rfl trivial rfl rfl (by kernel_rfl) (by kernel_rfl) (by kernel_rfl)
theorem ty_89 : TyOk Try.prog 89 ⟨1, 24, [.v (.slice none 0 0)], .sl 3, false⟩ := tyOk_of (zs := [.slice none 0 0]) (by kernel_rfl) Try.underlying89 rfl rfl rfl rfl (by kernel_rfl) (by kernel_rfl) (by kernel_rfl)
theorem ty_92 : TyOk Try.prog 92 ⟨1, 8, [.v (.nilFunc)], .fn, false⟩ := tyOk_of (zs := [.nilFunc]) (by kernel_rfl) Try.underlying92 rfl trivial rfl rfl (by kernel_rfl) (by kernel_rfl) (by kernel_rfl)
theorem ty_93 : TyOk Try.prog 93 ⟨1, 8, [.v (.nilFunc)], .fn, false⟩ := tyOk_of (zs := [.nilFunc]) (by kernel_rfl) Try.underlying93 rfl trivial rfl rfl (by kernel_rfl) (by kernel_rfl) (by kernel_rfl)
theorem ty_95 : TyOk Try.prog 95 ⟨2, 16, [.v (.int .i64 0), .v (.int .i64 0)], .st [(0, 3), (1, 3)], true⟩ := tyOk_of (zs := [.int .i64 0, .int .i64 0]) (by kernel_rfl) Try.underlying95 rfl rfl rfl rfl (by kernel_rfl) (by kernel_rfl) (by kernel_rfl)
theorem ty_96 : TyOk Try.prog 96 ⟨2, 16, [.v (.int .i64 0), .v (.int .i64 0)], .st [(0, 3), (1, 3)], true⟩ := tyOk_of (zs := [.int .i64 0, .int .i64 0]) (by kernel_rfl) Try.underlying96 rfl rfl rfl rfl (by kernel_rfl) (by kernel_rfl) (by kernel_rfl)
theorem ty_99 : TyOk Try.prog 99 ⟨1, 4, [.v (.int .u32 0)], .int .u32, false⟩ := tyOk_of (zs := [.int .u32 0]) (by kernel_rfl) Try.underlying99 rfl rfl rfl rfl (by kernel_rfl) (by kernel_rfl) (by kernel_rfl)
theorem ty_102 : TyOk Try.prog 102 ⟨1, 8, [.v (.int .u64 0)], .int .u64, false⟩ := tyOk_of (zs := [.int .u64 0]) (by kernel_rfl) Try.underlying102 rfl rfl rfl rfl (by kernel_rfl) (by kernel_rfl) (by kernel_rfl)
theorem ty_105 : TyOk Try.prog 105 ⟨1, 8, [.v (.pointer none)], .oth, false⟩ := tyOk_of (zs := [.pointer none]) (by kernel_rfl) Try.underlying105 rfl trivial rfl rfl (by kernel_rfl) (by kernel_rfl) (by kernel_rfl)
theorem ty_113 : TyOk Try.prog 113 ⟨1, 8, [.v (.nilFunc)], .fn, false⟩ := tyOk_of (zs := [.nilFunc]) (by kernel_rfl) Try.underlying113 rfl trivial rfl rfl (by kernel_rfl) (by kernel_rfl) (by kernel_rfl)
theorem ty_115 : TyOk Try.prog 115 ⟨1, 8, [.v (.nilFunc)], .fn, false⟩ := tyOk_of (zs := [.nilFunc]) (by kernel_rfl) Try.underlying115 rfl trivial rfl rfl (by kernel_rfl) (by kernel_rfl) (by kernel_rfl)
theorem ty_118 : TyOk Try.prog 118 ⟨1, 8, [.v (.int .i64 0)], .int .i64, false⟩ := tyOk_of (zs := [.int .i64 0]) (by kernel_rfl) Try.underlying118 rfl rfl rfl rfl (by kernel_rfl) (by kernel_rfl) (by kernel_rfl)
theorem ty_128 : TyOk Try.prog 128 ⟨1, 8, [.v (.int .u64 0)], .int .u64, false⟩ := tyOk_of (zs := [.int .u64 0]) (by kernel_rfl) Try.underlying128 rfl rfl rfl rfl (by kernel_rfl) (by kernel_rfl) (by kernel_rfl)
theorem ty_132 : TyOk Try.prog 132 ⟨1, 8, [.v (.pointer none)], .ptr 3, false⟩ := tyOk_of (zs := [.pointer none]) (by kernel_rfl) Try.underlying132 rfl rfl rfl rfl (by kernel_rfl) (by kernel_rfl) (by kernel_rfl)
theorem ty_139 : TyOk Try.prog 139 ⟨1, 8, [.v (.pointer none)], .ptr 128, false⟩ := tyOk_of (zs := [.pointer none]) (by kernel_rfl) Try.underlying139 rfl rfl rfl rfl (by kernel_rfl) (by kernel_rfl) (by kernel_rfl)
theorem ty_144 : TyOk Try.prog 144 ⟨4, 40, [.v (.pointer none), .v (.pointer none), .v (.pointer none), .v (.string ⟨#[]⟩)], .st [(0, 17), (1, 17), (2, 17), (3, 9)], false⟩ := tyOk_of (zs := [.pointer none, .pointer none, .pointer none, .string ⟨#[]⟩]) (by kernel_rfl) Try.underlying144 rfl rfl rfl rfl (by kernel_rfl) (by kernel_rfl) (by kernel_rfl)
theorem ty_145 : TyOk Try.prog 145 ⟨4, 40, [.v (.pointer none), .v (.pointer none), .v (.pointer none), .v (.string ⟨#[]⟩)], .st [(0, 17), (1, 17), (2, 17), (3, 9)], false⟩ := tyOk_of (zs := [.pointer none, .pointer none, .pointer none, .string ⟨#[]⟩]) (by kernel_rfl) Try.underlying145 rfl rfl rfl rfl (by kernel_rfl) (by kernel_rfl) (by kernel_rfl)
theorem ty_146 : TyOk Try.prog 146 ⟨0, 0, [], .arr 0 16, false⟩ := tyOk_of (zs := []) (by kernel_rfl) Try.underlying146 rfl ⟨rfl, rfl⟩ rfl rfl (by kernel_rfl) (by kernel_rfl) (by kernel_rfl)
theorem ty_147 : TyOk Try.prog 147 ⟨0, 0, [], .st [(0, 146)], false⟩ := tyOk_of (zs := []) (by kernel_rfl) Try.underlying147 rfl rfl rfl rfl (by kernel_rfl) (by kernel_rfl) (by kernel_rfl)
theorem ty_148 : TyOk Try.prog 148 ⟨0, 0, [], .st [(0, 146)], false⟩ := tyOk_of (zs := []) (by kernel_rfl) Try.underlying148 rfl rfl rfl rfl (by kernel_rfl) (by kernel_rfl) (by kernel_rfl)
theorem ty_149 : TyOk Try.prog 149 ⟨1, 1, [.v (.int .u8 0)], .int .u8, false⟩ := tyOk_of (zs := [.int .u8 0]) (by kernel_rfl) Try.underlying149 rfl rfl rfl rfl (by kernel_rfl) (by kernel_rfl) (by kernel_rfl)
theorem ty_150 : TyOk Try.prog 150 ⟨1, 1, [.v (.int .u8 0)], .int .u8, false⟩ := tyOk_of (zs := [.int .u8 0]) (by kernel_rfl) Try.underlying150 rfl rfl rfl rfl (by kernel_rfl) (by kernel_rfl) (by kernel_rfl)
theorem ty_152 : TyOk Try.prog 152 ⟨1, 4, [.v (.int .i32 0)], .int .i32, false⟩ := tyOk_of (zs := [.int .i32 0]) (by kernel_rfl) Try.underlying152 rfl rfl rfl rfl (by kernel_rfl) (by kernel_rfl) (by kernel_rfl)
theorem ty_153 : TyOk Try.prog 153 ⟨1, 4, [.v (.int .i32 0)], .int .i32, false⟩ := tyOk_of (zs := [.int .i32 0]) (by kernel_rfl) Try.underlying153 rfl rfl rfl rfl (by kernel_rfl) (by kernel_rfl) (by kernel_rfl)
theorem ty_154 : TyOk Try.prog 154 ⟨11, 48, [.v (.int .u64 0), .v (.int .u64 0), .v (.int .u32 0), .v (.int .u8 0), .v (.int .u8 0), .v (.int .u8 0), .v (.int .u8 0), .v (.nilFunc), .v (.pointer none), .v (.int .i32 0), .v (.int .i32 0)], .st [(0, 12), (1, 12), (2, 99), (3, 149), (4, 5), (5, 5), (6, 150), (7, 151), (8, 79), (9, 152), (10, 153)], false⟩ := tyOk_of (zs := [.int .u64 0, .int .u64 0, .int .u32 0, .int .u8 0, .int .u8 0, .int .u8 0, .int .u8 0, .nilFunc, .pointer none, .int .i32 0, .int .i32 0]) (by kernel_rfl) Try.underlying154 rfl rfl rfl rfl (by kernel_rfl) (by kernel_rfl) (by kernel_rfl)
theorem ty_155 : TyOk Try.prog 155 ⟨11, 48, [.v (.int .u64 0), .v (.int .u64 0), .v (.int .u32 0), .v (.int .u8 0), .v (.int .u8 0), .v (.int .u8 0), .v (.int .u8 0), .v (.nilFunc), .v (.pointer none), .v (.int .i32 0), .v (.int .i32 0)], .st [(0, 12), (1, 12), (2, 99), (3, 149), (4, 5), (5, 5), (6, 150), (7, 151), (8, 79), (9, 152), (10, 153)], false⟩ := tyOk_of (zs := [.int .u64 0, .int .u64 0, .int .u32 0, .int .u8 0, .int .u8 0, .int .u8 0, .int .u8 0, .nilFunc, .pointer none, .int .i32 0, .int .i32 0]) (by kernel_rfl) Try.underlying155 rfl rfl rfl rfl (by kernel_rfl) (by kernel_rfl) (by kernel_rfl)
def tabc_0 : Nat → Option TyI
  | 1 => some ⟨1, 8, [.v (.nilFunc)], .fn, false⟩
  | 2 => some ⟨1, 8, [.v (.int .i64 0)], .int .i64, false⟩
  | 3 => some ⟨1, 8, [.v (.int .i64 0)], .int .i64, false⟩
  | 4 => some ⟨1, 1, [.v (.bool false)], .bool, false⟩
  | 5 => some ⟨1, 1, [.v (.int .u8 0)], .int .u8, false⟩
  | 6 => some ⟨1, 1, [.v (.int .u8 0)], .int .u8, false⟩
  | 7 => some ⟨4, 24, [.v (.int .i64 0), .v (.int .i64 0), .v (.bool false), .v (.int .u8 0)], .st [(0, 2), (1, 3), (2, 4), (3, 6)], false⟩
  | 8 => some ⟨4, 24, [.v (.int .i64 0), .v (.int .i64 0), .v (.bool false), .v (.int .u8 0)], .st [(0, 2), (1, 3), (2, 4), (3, 6)], false⟩
  | 9 => some ⟨1, 16, [.v (.string ⟨#[]⟩)], .str, false⟩
  | 10 => some ⟨1, 16, [.v (.string ⟨#[]⟩)], .str, false⟩
  | 11 => some ⟨1, 16, [.v (.string ⟨#[]⟩)], .str, false⟩
  | 12 => some ⟨1, 8, [.v (.int .u64 0)], .int .u64, false⟩
  | 13 => some ⟨2, 24, [.v (.string ⟨#[]⟩), .v (.int .u64 0)], .st [(0, 9), (1, 12)], false⟩
  | 14 => some ⟨2, 24, [.v (.string ⟨#[]⟩), .v (.int .u64 0)], .st [(0, 9), (1, 12)], false⟩
  | 15 => some ⟨1, 8, [.v (.pointer none)], .ptr 145, false⟩
  | 16 => some ⟨1, 8, [.v (.pointer none)], .ptr 148, false⟩
  | 17 => some ⟨1, 8, [.v (.pointer none)], .ptr 155, false⟩
  | 18 => some ⟨1, 8, [.v (.pointer none)], .st [(0, 17)], false⟩
  | 19 => some ⟨1, 8, [.v (.pointer none)], .st [(0, 17)], false⟩
  | 21 => some ⟨1, 4, [.v (.int .i32 0)], .int .i32, false⟩
  | 22 => some ⟨3, 24, [.v (.int .u8 0), .v (.int .u8 0), .v (.string ⟨#[]⟩)], .st [(0, 5), (1, 5), (2, 9)], true⟩
  | 23 => some ⟨3, 24, [.v (.int .u8 0), .v (.int .u8 0), .v (.string ⟨#[]⟩)], .st [(0, 5), (1, 5), (2, 9)], true⟩
  | 24 => some ⟨1, 24, [.v (.slice none 0 0)], .sl 38, false⟩
  | 25 => some ⟨3, 40, [.v (.int .i64 0), .v (.int .i64 0), .v (.slice none 0 0)], .st [(0, 3), (1, 3), (2, 24)], false⟩
  | 26 => some ⟨3, 40, [.v (.int .i64 0), .v (.int .i64 0), .v (.slice none 0 0)], .st [(0, 3), (1, 3), (2, 24)], false⟩
  | 27 => some ⟨1, 24, [.v (.slice none 0 0)], .sl 5, false⟩
  | 32 => some ⟨1, 8, [.v (.int .i64 0)], .int .i64, false⟩
  | 38 => some ⟨1, 1, [.v (.int .u8 0)], .int .u8, false⟩
  | 46 => some ⟨1, 8, [.v (.pointer none)], .ptr 66, false⟩
  | 53 => some ⟨1, 8, [.v (.pointer none)], .ptr 55, false⟩
  | 54 => some ⟨2, 32, [.v (.pointer none), .v (.slice none 0 0)], .st [(0, 53), (1, 27)], false⟩
  | 55 => some ⟨2, 32, [.v (.pointer none), .v (.slice none 0 0)], .st [(0, 53), (1, 27)], false⟩
  | 64 => some ⟨1, 8, [.v (.nilFunc)], .fn, false⟩
  | 65 => some ⟨7, 104, [.v (.int .i64 0), .v (.int .i64 0), .v (.slice none 0 0), .v (.slice none 0 0), .v (.int .i64 0), .v (.int .i64 0), .v (.slice none 0 0)], .st [(0, 3), (1, 3), (2, 24), (3, 24), (4, 26)], false⟩
  | 66 => some ⟨7, 104, [.v (.int .i64 0), .v (.int .i64 0), .v (.slice none 0 0), .v (.slice none 0 0), .v (.int .i64 0), .v (.int .i64 0), .v (.slice none 0 0)], .st [(0, 3), (1, 3), (2, 24), (3, 24), (4, 26)], false⟩
  | 67 => some ⟨1, 24, [.v (.slice none 0 0)], .sl 69, false⟩
  | 69 => some ⟨1, 24, [.v (.slice none 0 0)], .sl 81, false⟩
  | 71 => some ⟨1, 24, [.v (.slice none 0 0)], .st [(0, 69)], false⟩
  | 72 => some ⟨1, 24, [.v (.slice none 0 0)], .st [(0, 69)], false⟩
  | 74 => some ⟨1, 8, [.v (.int .u64 0)], .int .u64, false⟩
  | _ => none
theorem tabc_ok_0 : TabOk Try.prog tabc_0 := by
  intro t i h
  unfold tabc_0 at h
  split at h
  · exact Option.some.inj h ▸ ty_1
  · exact Option.some.inj h ▸ ty_2
  · exact Option.some.inj h ▸ ty_3
  · exact Option.some.inj h ▸ ty_4
  · exact Option.some.inj h ▸ ty_5
  · exact Option.some.inj h ▸ ty_6
  · exact Option.some.inj h ▸ ty_7
  · exact Option.some.inj h ▸ ty_8
  · exact Option.some.inj h ▸ ty_9
  · exact Option.some.inj h ▸ ty_10
  · exact Option.some.inj h ▸ ty_11
  · exact Option.some.inj h ▸ ty_12
  · exact Option.some.inj h ▸ ty_13
  · exact Option.some.inj h ▸ ty_14
  · exact Option.some.inj h ▸ ty_15
  · exact Option.some.inj h ▸ ty_16
  · exact Option.some.inj h ▸ ty_17
  · exact Option.some.inj h ▸ ty_18
  · exact Option.some.inj h ▸ ty_19
  · exact Option.some.inj h ▸ ty_21
  · exact Option.some.inj h ▸ ty_22
  · exact Option.some.inj h ▸ ty_23
  · exact Option.some.inj h ▸ ty_24
  · exact Option.some.inj h ▸ ty_25
  · exact Option.some.inj h ▸ ty_26
  · exact Option.some.inj h ▸ ty_27
  · exact Option.some.inj h ▸ ty_32
  · exact Option.some.inj h ▸ ty_38
  · exact Option.some.inj h ▸ ty_46
  · exact Option.some.inj h ▸ ty_53
  · exact Option.some.inj h ▸ ty_54
  · exact Option.some.inj h ▸ ty_55
  · exact Option.some.inj h ▸ ty_64
  · exact Option.some.inj h ▸ ty_65
  · exact Option.some.inj h ▸ ty_66
  · exact Option.some.inj h ▸ ty_67
  · exact Option.some.inj h ▸ ty_69
  · exact Option.some.inj h ▸ ty_71
  · exact Option.some.inj h ▸ ty_72
  · exact Option.some.inj h ▸ ty_74
  · cases h
def tabc_1 : Nat → Option TyI
  | 79 => some ⟨1, 8, [.v (.pointer none)], .ptr 5, false⟩
  | 80 => some ⟨4, 32, [.v (.int .i64 0), .v (.int .i64 0), .v (.int .i64 0), .v (.int .i64 0)], .st [(0, 3), (1, 3), (2, 3), (3, 3)], true⟩
  | 81 => some ⟨4, 32, [.v (.int .i64 0), .v (.int .i64 0), .v (.int .i64 0), .v (.int .i64 0)], .st [(0, 3), (1, 3), (2, 3), (3, 3)], true⟩
  | 83 => some ⟨1, 8, [.v (.nilFunc)], .fn, false⟩
  | 84 => some ⟨1, 8, [.v (.nilFunc)], .fn, false⟩
  | 88 => some ⟨1, 8, [.v (.nilFunc)], .fn, false⟩
  | 89 => some ⟨1, 24, [.v (.slice none 0 0)], .sl 3, false⟩
  | 92 => some ⟨1, 8, [.v (.nilFunc)], .fn, false⟩
  | 93 => some ⟨1, 8, [.v (.nilFunc)], .fn, false⟩
  | 95 => some ⟨2, 16, [.v (.int .i64 0), .v (.int .i64 0)], .st [(0, 3), (1, 3)], true⟩
  | 96 => some ⟨2, 16, [.v (.int .i64 0), .v (.int .i64 0)], .st [(0, 3), (1, 3)], true⟩
  | 99 => some ⟨1, 4, [.v (.int .u32 0)], .int .u32, false⟩
  | 102 => some ⟨1, 8, [.v (.int .u64 0)], .int .u64, false⟩
  | 105 => some ⟨1, 8, [.v (.pointer none)], .oth, false⟩
  | 113 => some ⟨1, 8, [.v (.nilFunc)], .fn, false⟩
  | 115 => some ⟨1, 8, [.v (.nilFunc)], .fn, false⟩
  | 118 => some ⟨1, 8, [.v (.int .i64 0)], .int .i64, false⟩
  | 128 => some ⟨1, 8, [.v (.int .u64 0)], .int .u64, false⟩
  | 132 => some ⟨1, 8, [.v (.pointer none)], .ptr 3, false⟩
  | 139 => some ⟨1, 8, [.v (.pointer none)], .ptr 128, false⟩
  | 144 => some ⟨4, 40, [.v (.pointer none), .v (.pointer none), .v (.pointer none), .v (.string ⟨#[]⟩)], .st [(0, 17), (1, 17), (2, 17), (3, 9)], false⟩
  | 145 => some ⟨4, 40, [.v (.pointer none), .v (.pointer none), .v (.pointer none), .v (.string ⟨#[]⟩)], .st [(0, 17), (1, 17), (2, 17), (3, 9)], false⟩
  | 146 => some ⟨0, 0, [], .arr 0 16, false⟩
  | 147 => some ⟨0, 0, [], .st [(0, 146)], false⟩
  | 148 => some ⟨0, 0, [], .st [(0, 146)], false⟩
  | 149 => some ⟨1, 1, [.v (.int .u8 0)], .int .u8, false⟩
  | 150 => some ⟨1, 1, [.v (.int .u8 0)], .int .u8, false⟩
  | 152 => some ⟨1, 4, [.v (.int .i32 0)], .int .i32, false⟩
  | 153 => some ⟨1, 4, [.v (.int .i32 0)], .int .i32, false⟩
  | 154 => some ⟨11, 48, [.v (.int .u64 0), .v (.int .u64 0), .v (.int .u32 0), .v (.int .u8 0), .v (.int .u8 0), .v (.int .u8 0), .v (.int .u8 0), .v (.nilFunc), .v (.pointer none), .v (.int .i32 0), .v (.int .i32 0)], .st [(0, 12), (1, 12), (2, 99), (3, 149), (4, 5), (5, 5), (6, 150), (7, 151), (8, 79), (9, 152), (10, 153)], false⟩
  | 155 => some ⟨11, 48, [.v (.int .u64 0), .v (.int .u64 0), .v (.int .u32 0), .v (.int .u8 0), .v (.int .u8 0), .v (.int .u8 0), .v (.int .u8 0), .v (.nilFunc), .v (.pointer none), .v (.int .i32 0), .v (.int .i32 0)], .st [(0, 12), (1, 12), (2, 99), (3, 149), (4, 5), (5, 5), (6, 150), (7, 151), (8, 79), (9, 152), (10, 153)], false⟩
  | _ => none
theorem tabc_ok_1 : TabOk Try.prog tabc_1 := by
  intro t i h
  unfold tabc_1 at h
  split at h
  · exact Option.some.inj h ▸ ty_79
  · exact Option.some.inj h ▸ ty_80
  · exact Option.some.inj h ▸ ty_81
  · exact Option.some.inj h ▸ ty_83
  · exact Option.some.inj h ▸ ty_84
  · exact Option.some.inj h ▸ ty_88
  · exact Option.some.inj h ▸ ty_89
  · exact Option.some.inj h ▸ ty_92
  · exact Option.some.inj h ▸ ty_93
  · exact Option.some.inj h ▸ ty_95
  · exact Option.some.inj h ▸ ty_96
  · exact Option.some.inj h ▸ ty_99
  · exact Option.some.inj h ▸ ty_102
  · exact Option.some.inj h ▸ ty_105
  · exact Option.some.inj h ▸ ty_113
  · exact Option.some.inj h ▸ ty_115
  · exact Option.some.inj h ▸ ty_118
  · exact Option.some.inj h ▸ ty_128
  · exact Option.some.inj h ▸ ty_132
  · exact Option.some.inj h ▸ ty_139
  · exact Option.some.inj h ▸ ty_144
  · exact Option.some.inj h ▸ ty_145
  · exact Option.some.inj h ▸ ty_146
  · exact Option.some.inj h ▸ ty_147
  · exact Option.some.inj h ▸ ty_148
  · exact Option.some.inj h ▸ ty_149
  · exact Option.some.inj h ▸ ty_150
  · exact Option.some.inj h ▸ ty_152
  · exact Option.some.inj h ▸ ty_153
  · exact Option.some.inj h ▸ ty_154
  · exact Option.some.inj h ▸ ty_155
  · cases h
def tab (t : Nat) : Option TyI := (tabc_0 t).or ((tabc_1 t).or (none))
theorem tab_ok : TabOk Try.prog tab := by
  intro t i h
  unfold tab at h
  rcases Option.or_eq_some_iff.1 h with h | ⟨-, h⟩
  · exact tabc_ok_0 t i h
  rcases Option.or_eq_some_iff.1 h with h | ⟨-, h⟩
  · exact tabc_ok_1 t i h
  cases h
end
section
open Go.RowKit
set_option maxRecDepth 10000
abbrev rectT (r : Rect) : T := .agg [I64 r.X, I64 r.Y, I64 r.W, I64 r.H]
def cR : Cd Rect := ⟨4, fun r => [I64 r.X, I64 r.Y, I64 r.W, I64 r.H], fun _ => rfl, fun _ => rfl, fun _ => rfl, by decide⟩
theorem cR_sz : cR.sz = 4 := rfl
def cLR : Cd (List Rect) := ⟨1, fun l => [.islc (encL cR l) l.length none], fun _ => rfl, fun l => by simp [T.pureL, T.pure, encL_pure], fun _ => rfl, by decide⟩
theorem cLR_sz : cLR.sz = 1 := rfl
theorem au_sR {p : Prop} (h : p := by first | rfl | exact Nat.le_of_ble_eq_true rfl | omega | (simp only [encL_len, List.length_append, List.length_cons, List.length_nil, List.length_replicate, Nat.zero_add, cI_sz, cU_sz, cR_sz, cLR_sz]; omega) | (simp [encL_len, cI_sz, cU_sz, cR_sz, cLR_sz]; done) | (simp [encL_len, cI_sz, cU_sz, cR_sz, cLR_sz]; omega)) : p := h
theorem isNaN_p [Dr] (x : Int) : CallP Try.prog 60 [I64 x] (BL false) := by
  refine CallP.intro2 au_pu au_pu ?_
  refine CallT.intro tab_ok Try.func60 rfl (by kernel_rfl) (Nat.le_of_ble_eq_true rfl) ?_
  refine VC.reg tab_ok [] rfl ?_
  refine VX.meek rfl ?_
  refine VX.nil ?_
  refine VC.reg tab_ok [] rfl ?_
  iterate 4 refine VX.meek rfl ?_
  refine VX.nil ?_
  refine VC.ret ?_
  exact ⟨trivial, _, rfl, Cv.eq (congrArg BL (by simp)) rfl⟩
def cmpI (x y : Int) : Int := if x < y then -1 else if y < x then 1 else 0
theorem compare_p [Dr] (x y : Int) : CallP Try.prog 43 [I64 x, I64 y] (I64 (cmpI x y)) := by
  refine CallP.intro2 au_pu au_pu ?_
  refine CallT.intro tab_ok Try.func43 rfl (by kernel_rfl) (Nat.le_of_ble_eq_true rfl) ?_
  refine VC.reg tab_ok [] rfl ?_
  refine VX.meek rfl ?_
  refine VX.nil ?_
  refine VC.reg tab_ok [] rfl ?_
  refine VX.meek rfl ?_
  refine VX.callP0 rfl rfl rfl (isNaN_p _) ?_
  refine VX.meek rfl ?_
  refine VX.nil ?_
  refine VC.reg tab_ok [] rfl ?_
  refine VX.meek rfl ?_
  refine VX.callP0 rfl rfl rfl (isNaN_p _) ?_
  refine VX.meek rfl ?_
  refine VX.nil ?_
  refine VC.seq ?_
  refine VC.reg tab_ok [] rfl ?_
  refine VX.meek rfl ?_
  refine VX.nil ?_
  refine VC.condF rfl ?_
  refine VC.skip ?_
  refine VC.seq ?_
  refine VC.reg tab_ok [] rfl ?_
  refine VX.meek rfl ?_
  refine VX.nil ?_
  refine VC.condF rfl ?_
  refine VC.skip ?_
  refine VC.seq ?_
  refine VC.reg tab_ok [] rfl ?_
  iterate 3 refine VX.meek rfl ?_
  refine VX.nil ?_
  refine VC.cond rfl (fun hc3 => ?_) (fun hc3 => ?_)
  · (try simp only [au_std] at hc3)
    refine VC.reg tab_ok [] rfl ?_
    refine VX.meek rfl ?_
    refine VX.nil ?_
    refine VC.ret ?_
    exact ⟨trivial, _, rfl, Cv.eq (congrArg I64 (by unfold cmpI; split <;> (try split) <;> omega)) rfl⟩
  · (try simp only [au_std] at hc3)
    refine VC.skip ?_
    refine VC.seq ?_
    refine VC.reg tab_ok [] rfl ?_
    iterate 3 refine VX.meek rfl ?_
    refine VX.nil ?_
    refine VC.cond rfl (fun hc4 => ?_) (fun hc4 => ?_)
    · (try simp only [au_std] at hc4)
      refine VC.reg tab_ok [] rfl ?_
      refine VX.meek rfl ?_
      refine VX.nil ?_
      refine VC.ret ?_
      exact ⟨trivial, _, rfl, Cv.eq (congrArg I64 (by unfold cmpI; split <;> (try split) <;> omega)) rfl⟩
    · (try simp only [au_std] at hc4)
      refine VC.skip ?_
      refine VC.reg tab_ok [] rfl ?_
      refine VX.meek rfl ?_
      refine VX.nil ?_
      refine VC.ret ?_
      exact ⟨trivial, _, rfl, Cv.eq (congrArg I64 (by unfold cmpI; split <;> (try split) <;> omega)) rfl⟩
def i64 (n : Int) : Prop := -9223372036854775808 ≤ n ∧ n ≤ 9223372036854775807
def fitsB (x n : Int) : Bool := decide (-1048576 ≤ x) && decide (0 < n) && decide (n ≤ 1048576 - x)
theorem fits_p [Dr] (x n : Int) (hx : i64 x) : CallP Try.prog 57 [I64 x, I64 n] (BL (fitsB x n)) := by
  unfold i64 at hx
  refine CallP.intro2 au_pu au_pu ?_
  refine CallT.intro tab_ok Try.func57 rfl (by kernel_rfl) (Nat.le_of_ble_eq_true rfl) ?_
  refine VC.reg tab_ok [] rfl ?_
  refine VX.meek rfl ?_
  refine VX.nil ?_
  refine VC.reg tab_ok [] rfl ?_
  iterate 3 refine VX.meek rfl ?_
  refine' VX.merge (d := 10) [_, _, _] rfl ?_ rfl ?_
  rotate_left
  · refine VX.guard rfl rfl (fun hb1_2 => ?_) (fun hb1_2 => ?_)
    · have ghb1_2 := hb1_2
      try simp only [au_std, Bool.not_true, Bool.not_false] at ghb1_2
      refine VX.meek rfl ?_
      refine VX.guardT rfl rfl hb1_2 ?_
      refine VX.meek rfl ?_
      refine VX.pickA rfl (fun _ => rfl) ?_
      exact VX.nil ⟨rfl, rfl⟩
    · refine VX.guardF rfl rfl hb1_2 ?_
      exact VX.pickA rfl (fun h => absurd (h.symm.trans hb1_2) (by decide)) (VX.nil ⟨rfl, rfl⟩)
  refine VX.meek rfl ?_
  refine' VX.merge (d := 16) [_, _, _, _, _] rfl ?_ rfl ?_
  rotate_left
  · refine VX.guard rfl rfl (fun hb1_6 => ?_) (fun hb1_6 => ?_)
    · have ghb1_6 := hb1_6
      try simp only [au_std, Bool.not_true, Bool.not_false] at ghb1_6
      refine VX.meek rfl ?_
      refine VX.guardT rfl rfl hb1_6 ?_
      refine VX.meek rfl ?_
      refine VX.guardT rfl rfl hb1_6 ?_
      first | refine VX.sub rfl rfl (by omega) ?_ | refine VX.meek rfl ?_
      refine VX.guardT rfl rfl hb1_6 ?_
      refine VX.meek rfl ?_
      refine VX.pickA rfl (fun _ => rfl) ?_
      exact VX.nil ⟨rfl, rfl⟩
    · refine VX.guardF rfl rfl hb1_6 ?_
      iterate 2 refine VX.guardF rfl rfl hb1_6 ?_
      exact VX.pickA rfl (fun h => absurd (h.symm.trans hb1_6) (by decide)) (VX.nil ⟨rfl, rfl⟩)
  refine VX.meek rfl ?_
  refine VX.nil ?_
  refine VC.ret ?_
  exact ⟨trivial, _, rfl, Cv.eq (by first | rfl | (simp [*]; done)) rfl⟩
def countsB (r : Rect) : Bool := fitsB r.X r.W && fitsB r.Y r.H
theorem counts_p [Dr] (r : Rect) (hx : i64 r.X) (hy : i64 r.Y) : CallP Try.prog 39 [rectT r] (BL (countsB r)) := by
  refine CallP.intro2 au_pu au_pu ?_
  refine CallT.intro tab_ok Try.func39 rfl (by kernel_rfl) (Nat.le_of_ble_eq_true rfl) ?_
  refine VC.reg tab_ok [1] rfl ?_
  refine VX.newI rfl rfl ?_
  refine VX.meek rfl ?_
  refine VX.nil ?_
  refine VC.reg tab_ok [] rfl ?_
  refine VX.meek rfl ?_
  first | refine VX.meek rfl ?_ | refine VX.loadI rfl rfl au_l ?_ | refine VX.loadP rfl rfl rfl au_l ?_
  refine VX.meek rfl ?_
  first | refine VX.meek rfl ?_ | refine VX.loadI rfl rfl au_l ?_ | refine VX.loadP rfl rfl rfl au_l ?_
  refine VX.callP0 rfl rfl rfl (fits_p _ _ (by assumption)) ?_
  refine VX.meek rfl ?_
  refine' VX.merge (d := 14) [_, _, _, _, _, _] rfl ?_ rfl ?_
  rotate_left
  · refine VX.guard rfl rfl (fun hb1_5 => ?_) (fun hb1_5 => ?_)
    · have ghb1_5 := hb1_5
      try simp only [au_std, Bool.not_true, Bool.not_false] at ghb1_5
      refine VX.meek rfl ?_
      refine VX.guardT rfl rfl hb1_5 ?_
      first | refine VX.meek rfl ?_ | refine VX.loadI rfl rfl au_l ?_ | refine VX.loadP rfl rfl rfl au_l ?_
      refine VX.guardT rfl rfl hb1_5 ?_
      refine VX.meek rfl ?_
      refine VX.guardT rfl rfl hb1_5 ?_
      first | refine VX.meek rfl ?_ | refine VX.loadI rfl rfl au_l ?_ | refine VX.loadP rfl rfl rfl au_l ?_
      refine VX.guardT rfl rfl hb1_5 ?_
      refine VX.callP0 rfl rfl rfl (fits_p _ _ (by assumption)) ?_
      refine VX.pickA rfl (fun _ => rfl) ?_
      exact VX.nil ⟨rfl, rfl⟩
    · refine VX.guardF rfl rfl hb1_5 ?_
      iterate 3 refine VX.guardF rfl rfl hb1_5 ?_
      exact VX.pickA rfl (fun h => absurd (h.symm.trans hb1_5) (by decide)) (VX.nil ⟨rfl, rfl⟩)
  refine VX.meek rfl ?_
  refine VX.nil ?_
  refine VC.ret ?_
  exact ⟨trivial, _, rfl, Cv.eq rfl rfl⟩
theorem take_snoc {α : Type} [Inhabited α] {l : List α} {k : Nat} (h : k < l.length) : l.take (k + 1) = l.take k ++ [l[k]!] := by
  rw [List.take_succ_eq_append_getElem h, getElem!_pos l k h]
abbrev regT (l : List Rect) : T := .agg [.islc (encL cR l) l.length none]
end
section
open Go.RowKit
abbrev Wr := Nat × Nat × List T
def appW : List Wr → Hp → Hp
  | [], F => F
  | (b, o, xs) :: W, F => match lookH F b with
    | some cs => appW W (setH F b (.c (putL cs o xs)))
    | none => F
def wOk (Hm : Hp) : List Wr → Hp → Prop
  | [], _ => True
  | (b, o, xs) :: W, F => blkH Hm b = .d ∧ match lookH F b with
    | some cs => o + xs.length ≤ cs.length ∧ xs.all cellB = true ∧ wOk Hm W (setH F b (.c (putL cs o xs)))
    | none => False
inductive RunS [Dr] (P : Program) (tab : Tab) (im : List Nat) (ops : Array Oper) : List Oper → Env → Hp → Hp → List Stp → List Hp → List (Option Wr) → Env → Hp → Hp → Prop
  | nil (E : Env) (Hm F : Hp) : RunS P tab im ops [] E Hm F [] [] [] E Hm F
  | one {o : Oper} {l : List Oper} {E : Env} {Hm F : Hp} {s : Stp} {x : Hp} {r : List Stp} {hs : List Hp} {ws : List (Option Wr)} {E' : Env} {Hm' F' : Hp} (h : StpOk P tab im ops o E Hm s) (hx : x = newsOf s.nb ∨ (s.nb ≠ none ∧ x = [.d]))
      (k : RunS P tab im ops l (E.put o.dst s.t) (Hm ++ x) (F ++ newsOf s.nb) r hs ws E' Hm' F') : RunS P tab im ops (o :: l) E Hm F (s :: r) (Hm :: hs) (none :: ws) E' Hm' F'
  | sto {o : Oper} {l : List Oper} {E : Env} {Hm F : Hp} {t : Nat} {a x : Operand} {b q : Nat} {tx : T} {i : TyI} {r : List Stp} {hs : List Hp} {ws : List (Option Wr)} {E' : Env} {Hm' F' : Hp} (hg : o.guard = none) (hd : o.dst = none) (ho : o.op = .store t a x) (hT : tab t = some i) (ha : E.opd a = some (.ptr b q)) (hx : E.opd x = some tx)
      (hl : (flat tx).length = i.sz) (k : RunS P tab im ops l E Hm F r hs ws E' Hm' F') : RunS P tab im ops (o :: l) E Hm F (⟨.v undef, none⟩ :: r) (Hm :: hs) (some (b, q, flat tx) :: ws) E' Hm' F'
def StpS [Dr] (P : Program) (tab : Tab) (im : List Nat) (ops : Array Oper) (o : Oper) (E : Env) (H : Hp) (s : Stp) : Option Wr → Prop
  | none => StpOk P tab im ops o E H s
  | some (b, q, xs) => s = ⟨.v undef, none⟩ ∧ o.guard = none ∧ o.dst = none ∧ ∃ t a x tx i, o.op = .store t a x ∧ tab t = some i ∧ E.opd a = some (.ptr b q) ∧ E.opd x = some tx ∧ xs = flat tx ∧ xs.length = i.sz
def seen (Hm F : Hp) : Prop := Hm.length = F.length ∧ ∀ b, blkH Hm b ≠ .d → blkH Hm b = blkH F b
theorem seen_app {Hm F x y : Hp} (h : seen Hm F) (k : seen x y) : seen (Hm ++ x) (F ++ y) := by
  obtain ⟨h1, h2⟩ := h; obtain ⟨k1, k2⟩ := k
  refine ⟨by simp [h1, k1], fun b hb => ?_⟩
  rw [blkH_app, h1] at hb ⊢
  rw [blkH_app]
  split
  · rename_i hc; rw [if_pos hc] at hb; exact h2 b hb
  · rename_i hc; rw [if_neg hc] at hb; exact k2 _ hb
theorem seen_x {s : Stp} {x : Hp} (hx : x = newsOf s.nb ∨ (s.nb ≠ none ∧ x = [.d])) : seen x (newsOf s.nb) := by
  rcases hx with rfl | ⟨h, rfl⟩
  · exact ⟨rfl, fun _ _ => rfl⟩
  · obtain ⟨cs, hcs⟩ := Option.ne_none_iff_exists'.1 h
    rw [hcs]
    refine ⟨rfl, fun b hb => absurd ?_ hb⟩
    cases b with
    | zero => rfl
    | succ b => rfl
theorem runS_at [Dr] {P : Program} {tab : Tab} {im : List Nat} {ops : Array Oper} {l : List Oper} {E : Env} {Hm F : Hp} {r : List Stp} {hs : List Hp} {ws : List (Option Wr)} {E' : Env} {Hm' F' : Hp} (h : RunS P tab im ops l E Hm F r hs ws E' Hm' F') (hsn : seen Hm F) :
    r.length = l.length ∧ hs.length = l.length ∧ ws.length = l.length ∧ E' = envAt l r E l.length ∧ F' = hpAt r F l.length ∧
      (∀ k o s hk w, l[k]? = some o → r[k]? = some s → hs[k]? = some hk → ws[k]? = some w → StpS P tab im ops o (envAt l r E k) hk s w ∧ seen hk (hpAt r F k) ∧ (∀ b, blkH Hm' b = .d → blkH hk b = .d)) ∧ (∀ b, blkH Hm' b = .d → blkH Hm b = .d) := by
  induction h with
  | nil E Hm F => exact ⟨rfl, rfl, rfl, rfl, rfl, fun k o s hk w h => by simp at h, fun b hb => hb⟩
  | @one o l E Hm F s x r hs ws E' Hm' F' h hx k ih =>
    obtain ⟨h1, h2, h3, h4, h5, h6, h7⟩ := ih (seen_app hsn (seen_x hx))
    have h8 : ∀ b, blkH Hm' b = .d → blkH Hm b = .d := fun b hb => by
      have := h7 b hb
      rw [blkH_app] at this
      split at this
      · exact this
      · rename_i hc
        exact Classical.byContradiction fun hne => hc (blkH_lt hne)
    refine ⟨by simp [h1], by simp [h2], by simp [h3], h4, h5, fun j o' s' hk w ho hs' hh hw => ?_, h8⟩
    cases j with
    | zero => simp at ho hs' hh hw; subst ho hs' hh hw; exact ⟨h, hsn, h8⟩
    | succ j => exact h6 j o' s' hk w (by simpa using ho) (by simpa using hs') (by simpa using hh) (by simpa using hw)
  | @sto o l E Hm F t a x b q tx i r hs ws E' Hm' F' hg hd ho hT ha hx hl k ih =>
    obtain ⟨h1, h2, h3, h4, h5, h6, h7⟩ := ih hsn
    refine ⟨by simp [h1], by simp [h2], by simp [h3], ?_, ?_, fun j o' s' hk w ho' hs' hh hw => ?_, h7⟩
    · rw [h4]; show _ = envAt l r (E.put o.dst _) l.length; rw [hd]; rfl
    · rw [h5]; show _ = hpAt r (F ++ newsOf none) l.length; simp [newsOf]
    · cases j with
      | zero => simp at ho' hs' hh hw; subst ho' hs' hh hw; exact ⟨⟨rfl, hg, hd, t, a, x, tx, i, ho, hT, ha, hx, rfl, hl⟩, hsn, h7⟩
      | succ j =>
        have := h6 j o' s' hk w (by simpa using ho') (by simpa using hs') (by simpa using hh) (by simpa using hw)
        refine ⟨?_, ?_, this.2.2⟩
        · have e : envAt (o :: l) (⟨.v undef, none⟩ :: r) E (j + 1) = envAt l r E j := by show envAt l r (E.put o.dst _) j = _; rw [hd]; rfl
          rw [e]; exact this.1
        · have e : hpAt (⟨.v undef, none⟩ :: r) F (j + 1) = hpAt r F j := by show hpAt r (F ++ newsOf none) j = _; simp [newsOf]
          rw [e]; exact this.2.1
theorem appW_len : ∀ (W : List Wr) (F : Hp), (appW W F).length = F.length
  | [], _ => rfl
  | (b, o, xs) :: W, F => by
    unfold appW
    split
    · rw [appW_len, setH_length]
    · rfl
theorem appW_other {c : Nat} : ∀ (W : List Wr) (F : Hp), (∀ w ∈ W, w.1 ≠ c) → blkH (appW W F) c = blkH F c
  | [], _, _ => rfl
  | (b, o, xs) :: W, F, h => by
    unfold appW
    split
    · rename_i cs hc
      rw [appW_other W _ fun w hw => h w (List.mem_cons_of_mem _ hw), blkH_set _ _ _ _ (lookH_lt hc), if_neg (Ne.symm (h _ List.mem_cons_self))]
    · rfl
theorem appW_snoc {Hm : Hp} {b o : Nat} {xs : List T} : ∀ (W V : List Wr) (F : Hp), wOk Hm (W ++ (b, o, xs) :: V) F → blkH Hm b = .d ∧ ∃ cs, lookH (appW W F) b = some cs ∧ o + xs.length ≤ cs.length ∧ xs.all cellB = true ∧ appW (W ++ [(b, o, xs)]) F = setH (appW W F) b (.c (putL cs o xs))
  | [], V, F, h => by
    simp only [List.nil_append, wOk] at h
    obtain ⟨h0, h⟩ := h
    split at h
    · rename_i cs hc
      exact ⟨h0, cs, hc, h.1, h.2.1, by simp only [List.nil_append, appW, hc]⟩
    · exact h.elim
  | (b', o', xs') :: W, V, F, h => by
    simp only [List.cons_append, wOk] at h
    obtain ⟨-, h⟩ := h
    split at h
    · rename_i cs hc
      obtain ⟨h0, cs2, k1, k2, k3, k4⟩ := appW_snoc W V _ h.2.2
      refine ⟨h0, cs2, ?_, k2, k3, ?_⟩
      · simp only [appW, hc]; exact k1
      · simp only [List.cons_append, appW, hc]; exact k4
    · exact h.elim
theorem wOk_dead {Hm : Hp} : ∀ (W : List Wr) (F : Hp), wOk Hm W F → ∀ w ∈ W, blkH Hm w.1 = .d
  | [], _, _, w, h => by cases h
  | (b, o, xs) :: W, F, h, w, hw => by
    simp only [wOk] at h
    obtain ⟨h0, h⟩ := h
    split at h
    · rcases List.mem_cons.1 hw with rfl | hw
      · exact h0
      · exact wOk_dead W _ h.2.2 w hw
    · exact h.elim
end
section
open Go.RowKit
theorem Sim.stored [Dr] {P : Program} {tab : Tab} (hT : TabOk P tab) {blk : Nat → Blk} {D X0 : Nat → Prop} {M : Mp} (hS : Sim blk D X0 M) {t b o : Nat} {i : TyI} {cs : List T} {x : T} {ua ux : Value} (hi : tab t = some i) (hc : blk b = .c cs) (ha : Rep M (.ptr b o) ua) (hx : Rep M x ux)
    (h1 : (flat x).length = i.sz) (h2 : o + (flat x).length ≤ cs.length) (h3 : (flat x).all cellB = true) :
    ∃ M', (Instr.storeAt t ua ux).run P M.w = .ok () M'.w ∧ Evo X0 M M' ∧ Sim (updL blk b (.c (putL cs o (flat x)))) D X0 M' := by
  have hok := hT t i hi
  obtain ⟨B, O, hb, rfl⟩ := ha
  obtain ⟨ar, e, fz, g1, g2, g3, g4, g5⟩ := hS.block hb hc
  have hf := rep_flat hx
  have hl := hf.length
  simp only [Array.length_toList] at hl
  have hsz : O + o + 0 + ux.cells.toList.length ≤ ar.size := by
    rcases Nat.eq_zero_or_pos cs.length with h0 | h0
    · simp; omega
    · have := g3.size h0; simp; omega
  obtain ⟨a', k1, k2, k3⟩ := run_storeCells_any (P := P) (o := O + o) ux.cells.toList 0 ar M.w g1 g2 hsz (rep_cells hf h3)
  have hr := written (a' := a') (o := o) g3 hf (by omega) (fun k => by simpa using k3 k)
  obtain ⟨E, S⟩ := hS.write hb hc g1 k2 hr
  refine ⟨_, ?_, E, S⟩
  have hne : ux.cells.size = i.sz := by omega
  simp [Instr.storeAt, Instr.sureAddr, storeVar, hok.size_, hne]
  exact k1
section
variable {z : Bool} {P : Program} {tab : Tab} {n m kb lb : Nat} {l : List Oper} {E : Env} {H : Hp} {r : List Stp} {hs : List Hp} {ws : List (Option Wr)} {Hm' : Hp} {X0 : Nat → Prop} {M0 : Mp}
open Classical in
noncomputable def lookG (r : List Stp) (H G : Hp) (L : Nat → Prop) (b : Nat) : Blk := if b < H.length ∨ made r H L b then blkH G b else .d
def cntW (ws : List (Option Wr)) (k : Nat) : Nat := ((ws.take k).filterMap id).length
structure JdS [Dr] (n kb : Nat) (pre : List Oper) (r : List Stp) (ws : List (Option Wr)) (E : Env) (H : Hp) (X0 : Nat → Prop) (j : Nat) (L : Nat → Prop) (a : Act) (M : Mp) : Prop where
  sim : Sim (lookG r H (appW ((ws.filterMap id).take j) (hpAt r H r.length)) L) (fun b => b < H.length ∨ made r H L b) X0 M
  slot : ∀ k o s d, pre[k]? = some o → r[k]? = some s → L k → o.dst = some d → ∃ u, a.tmps[d]? = some u ∧ Rep M s.t u
  old : ∀ d t, E.get d = some t → (∀ k o, pre[k]? = some o → L k → o.dst ≠ some d) → ∃ u, a.tmps[d]? = some u ∧ Rep M t u
  sz : a.tmps.size = n
  df : Marks kb a.defers M
  ge : kb ≤ M.w.heap.size
  cnt : ∀ k w, ws[k]? = some (some w) → (L k ↔ cntW ws k < j)
  mkd : ∀ w ∈ (ws.filterMap id).take j, w.1 < H.length ∨ made r H L w.1
structure RunF [Dr] (P : Program) (tab : Tab) (im : List Nat) (l : List Oper) (m : Nat) (E : Env) (H : Hp) (r : List Stp) (hs : List Hp) (ws : List (Option Wr)) (Hm' : Hp) : Prop where
  rl : r.length = (l.take m).length
  hl : hs.length = (l.take m).length
  wl : ws.length = (l.take m).length
  st : ∀ k o s hk w, (l.take m)[k]? = some o → r[k]? = some s → hs[k]? = some hk → ws[k]? = some w → StpS P tab im l.toArray o (envAt (l.take m) r E k) hk s w ∧ seen hk (hpAt r H k) ∧ (∀ b, blkH Hm' b = .d → blkH hk b = .d)
  ok : wOk Hm' (ws.filterMap id) (hpAt r H r.length)
def stB (o : Option Oper) : Bool := match o with
  | some o => match o.op with | .store .. => true | _ => false
  | none => false
def chainB (l : List Oper) (m : Nat) : Bool := (List.range m).all fun k => (List.range k).all fun j => !(stB l[k]? && stB l[j]?) || ((masks l []).getD k 0).testBit j
theorem chain_at (h : chainB l m = true) {k j : Nat} (hk : k < m) (hj : j < k) {ok oj : Oper} (h1 : l[k]? = some ok) (h2 : l[j]? = some oj) {t t' : TypeId} {a x a' x' : Operand} (e1 : ok.op = .store t a x) (e2 : oj.op = .store t' a' x') : ((masks l []).getD k 0).testBit j = true := by
  unfold chainB at h
  rw [List.all_eq_true] at h
  have h := h k (List.mem_range.2 hk)
  rw [List.all_eq_true] at h
  have h := h j (List.mem_range.2 hj)
  have s1 : stB l[k]? = true := by rw [h1]; simp [stB, e1]
  have s2 : stB l[j]? = true := by rw [h2]; simp [stB, e2]
  rw [s1, s2] at h
  simpa using h
theorem JdS.read [Dr] {L : Nat → Prop} {a : Act} {M : Mp} {j0 : Nat} (hO : OrdB l m) (hr : r.length = (l.take m).length) (h : JdS n kb (l.take m) r ws E H X0 j0 L a M) (hc : Closed l L) {k : Nat} {o : Oper} (ho : (l.take m)[k]? = some o) (hk : ¬ L k) (hpre : ∀ e ∈ o.after, Region.binds .any e = true → L e.on)
    {d : Nat} {t : T} (hd : d ∈ readsOf l.toArray o) (ht : (envAt (l.take m) r E k).get d = some t) : ∃ u, a.tmps[d]? = some u ∧ Rep M t u := by
  have hkl : k < (l.take m).length := (List.getElem?_eq_some_iff.1 ho).1
  have hol : l[k]? = some o := by rw [List.getElem?_take] at ho; split at ho; exact ho; cases ho
  have hdis : ∀ (i j : Nat) (oi oj : Oper), (l.take m)[i]? = some oi → (l.take m)[j]? = some oj → i ≠ j → ∀ d, oi.dst = some d → oj.dst ≠ some d := fun i j oi oj hi hj hij d hdi => (hO.pair j oj i oi hj hi hij d hdi).1
  obtain ⟨g1, g2⟩ := env_get (E := E) (d := d) hr (Nat.le_of_lt hkl) hdis
  by_cases hw : ∃ j oj, j < k ∧ (l.take m)[j]? = some oj ∧ oj.dst = some d
  · obtain ⟨j, oj, hj, hoj, hdj⟩ := hw
    have hs : r[j]? = some r[j] := List.getElem?_eq_getElem (by omega)
    rw [g1 j oj _ hj hoj hs hdj] at ht
    injection ht with ht; subst ht
    have hm := (hO.pair k o j oj ho hoj (by omega) d hdj).2 hd
    rw [if_pos hj] at hm
    exact h.slot j oj _ d hoj hs (mask_next hO.back hc hol hpre hm) hdj
  · rw [g2 fun j oj hj hoj hdj => hw ⟨j, oj, hj, hoj, hdj⟩] at ht
    refine h.old d t ht fun j oj hoj hLj hdj => ?_
    by_cases hjk : j = k
    · subst hjk; exact hk hLj
    · have hm := (hO.pair k o j oj ho hoj hjk d hdj).2 hd
      by_cases hlt : j < k
      · exact hw ⟨j, oj, hlt, hoj, hdj⟩
      · rw [if_neg hlt] at hm
        exact hk (mask_listed hO.back hc j hLj k hm)
theorem cntW_lt {ws : List (Option Wr)} {k : Nat} {w : Wr} (h : ws[k]? = some (some w)) : (ws.filterMap id)[cntW ws k]? = some w := by
  unfold cntW
  have hk := (List.getElem?_eq_some_iff.1 h).1
  have e : ws = ws.take k ++ some w :: ws.drop (k + 1) := by
    rw [← List.getElem?_eq_some_iff.1 h |>.2, ← List.drop_eq_getElem_cons hk, List.take_append_drop]
  conv => lhs; arg 1; rw [e]
  rw [List.filterMap_append, List.getElem?_append_right (Nat.le_refl _), Nat.sub_self]
  simp
theorem cntW_mono {ws : List (Option Wr)} {k k' : Nat} (h : k < k') {w : Wr} (hw : ws[k]? = some (some w)) : cntW ws k < cntW ws k' := by
  unfold cntW
  have hk := (List.getElem?_eq_some_iff.1 hw).1
  have e : ws.take k' = ws.take k ++ some w :: (ws.take k').drop (k + 1) := by
    have h1 : (ws.take k')[k]? = some (some w) := by rw [List.getElem?_take, if_pos h]; exact hw
    have h2 := (List.getElem?_eq_some_iff.1 h1)
    have h3 : ws.take k = (ws.take k').take k := by rw [List.take_take, Nat.min_eq_left (by omega)]
    rw [h3, ← h2.2, ← List.drop_eq_getElem_cons h2.1, List.take_append_drop]
  rw [e, List.filterMap_append, List.length_append]
  simp
end
end
end Go.Proofs.Ytnngelggbljchaa
