/-
  The proof's lemmas, part 5.
-/
import Derived.Test.YtofmninnienjhaaGreatDoorEdmd
import Derived.LaidSub
import Derived.MakeChecks
import Derived.OpenVars
import Derived.Carry
namespace Go.Proofs.YtofmninnienjhaaGreatDoor
set_option linter.unusedSimpArgs false
set_option linter.unusedVariables false
section
open Go.RowKit
def visH (fl : Bool) (F : Hp) : Hp := if fl then F else List.replicate F.length .d
theorem visH_len (fl : Bool) (F : Hp) : (visH fl F).length = F.length := by unfold visH; cases fl <;> simp
theorem blkH_dead : ∀ (n b : Nat), blkH (List.replicate n .d) b = .d
  | 0, _ => rfl
  | n + 1, 0 => rfl
  | n + 1, b + 1 => blkH_dead n b
def wOkG : List Wr → Hp → Prop
  | [], _ => True
  | (b, o, xs) :: W, F => match lookH F b with
    | some cs => o + xs.length ≤ cs.length ∧ xs.all cellB = true ∧ wOkG W (setH F b (.c (putL cs o xs)))
    | none => False
theorem appW_snocG {b o : Nat} {xs : List T} : ∀ (W V : List Wr) (F : Hp), wOkG (W ++ (b, o, xs) :: V) F → ∃ cs, lookH (appW W F) b = some cs ∧ o + xs.length ≤ cs.length ∧ xs.all cellB = true ∧ appW (W ++ [(b, o, xs)]) F = setH (appW W F) b (.c (putL cs o xs))
  | [], V, F, h => by
    simp only [List.nil_append, wOkG] at h
    split at h
    · rename_i cs hc
      exact ⟨cs, hc, h.1, h.2.1, by simp only [List.nil_append, appW, hc]⟩
    · exact h.elim
  | (b', o', xs') :: W, V, F, h => by
    simp only [List.cons_append, wOkG] at h
    split at h
    · rename_i cs hc
      obtain ⟨cs2, k1, k2, k3, k4⟩ := appW_snocG W V _ h.2.2
      refine ⟨cs2, ?_, k2, k3, ?_⟩
      · simp only [appW, hc]; exact k1
      · simp only [List.cons_append, appW, hc]; exact k4
    · exact h.elim
inductive RunT [Dr] (P : Program) (tab : Tab) (im : List Nat) (ops : Array Oper) : List Oper → Env → Hp → List Stp → List Bool → List (Option Wr) → Env → Hp → Prop
  | nil (E : Env) (F : Hp) : RunT P tab im ops [] E F [] [] [] E F
  | one {o : Oper} {l : List Oper} {E : Env} {F : Hp} {s : Stp} {f : Bool} {r : List Stp} {fs : List Bool} {ws : List (Option Wr)} {E' : Env} {F' : Hp} (h : StpOk P tab im ops o E (visH f F) s)
      (k : RunT P tab im ops l (E.put o.dst s.t) (F ++ newsOf s.nb) r fs ws E' F') : RunT P tab im ops (o :: l) E F (s :: r) (f :: fs) (none :: ws) E' F'
  | sto {o : Oper} {l : List Oper} {E : Env} {F : Hp} {t : Nat} {a x : Operand} {b q : Nat} {tx : T} {i : TyI} {r : List Stp} {fs : List Bool} {ws : List (Option Wr)} {E' : Env} {F' : Hp} (hg : o.guard = none) (hd : o.dst = none) (ho : o.op = .store t a x) (hT : tab t = some i) (ha : E.opd a = some (.ptr b q)) (hx : E.opd x = some tx)
      (hl : (flat tx).length = i.sz) (k : RunT P tab im ops l E F r fs ws E' F') : RunT P tab im ops (o :: l) E F (⟨.v undef, none⟩ :: r) (false :: fs) (some (b, q, flat tx) :: ws) E' F'
theorem runT_at [Dr] {P : Program} {tab : Tab} {im : List Nat} {ops : Array Oper} {l : List Oper} {E : Env} {F : Hp} {r : List Stp} {fs : List Bool} {ws : List (Option Wr)} {E' : Env} {F' : Hp} (h : RunT P tab im ops l E F r fs ws E' F') :
    r.length = l.length ∧ fs.length = l.length ∧ ws.length = l.length ∧ E' = envAt l r E l.length ∧ F' = hpAt r F l.length ∧
      (∀ k o s f w, l[k]? = some o → r[k]? = some s → fs[k]? = some f → ws[k]? = some w → StpS P tab im ops o (envAt l r E k) (visH f (hpAt r F k)) s w) := by
  induction h with
  | nil E F => exact ⟨rfl, rfl, rfl, rfl, rfl, fun k o s f w h => by simp at h⟩
  | @one o l E F s f r fs ws E' F' h k ih =>
    obtain ⟨h1, h2, h3, h4, h5, h6⟩ := ih
    refine ⟨by simp [h1], by simp [h2], by simp [h3], h4, h5, fun j o' s' f' w ho hs' hh hw => ?_⟩
    cases j with
    | zero => simp at ho hs' hh hw; subst ho hs' hh hw; exact h
    | succ j => exact h6 j o' s' f' w (by simpa using ho) (by simpa using hs') (by simpa using hh) (by simpa using hw)
  | @sto o l E F t a x b q tx i r fs ws E' F' hg hd ho hT ha hx hl k ih =>
    obtain ⟨h1, h2, h3, h4, h5, h6⟩ := ih
    refine ⟨by simp [h1], by simp [h2], by simp [h3], ?_, ?_, fun j o' s' f' w ho' hs' hh hw => ?_⟩
    · rw [h4]; show _ = envAt l r (E.put o.dst _) l.length; rw [hd]; rfl
    · rw [h5]; show _ = hpAt r (F ++ newsOf none) l.length; simp [newsOf]
    · cases j with
      | zero => simp at ho' hs' hh hw; subst ho' hs' hh hw; exact ⟨rfl, hg, hd, t, a, x, tx, i, ho, hT, ha, hx, rfl, hl⟩
      | succ j =>
        have := h6 j o' s' f' w (by simpa using ho') (by simpa using hs') (by simpa using hh) (by simpa using hw)
        have e : envAt (o :: l) (⟨.v undef, none⟩ :: r) E (j + 1) = envAt l r E j := by show envAt l r (E.put o.dst _) j = _; rw [hd]; rfl
        have e2 : hpAt (⟨.v undef, none⟩ :: r) F (j + 1) = hpAt r F j := by show hpAt r (F ++ newsOf none) j = _; simp [newsOf]
        rw [e, e2]; exact this
def lateB (l : List Oper) (fs : List Bool) : Bool := (List.range l.length).all fun k' => !stB l[k']? || (List.range fs.length).all fun k => !(fs.getD k false) || ((masks l []).getD k' 0).testBit k
section
variable {z : Bool} {P : Program} {tab : Tab} {n m kb lb : Nat} {l : List Oper} {E : Env} {H : Hp} {r : List Stp} {fs : List Bool} {ws : List (Option Wr)} {X0 : Nat → Prop} {M0 : Mp} {im : List Nat}
structure RunG [Dr] (P : Program) (tab : Tab) (im : List Nat) (l : List Oper) (m : Nat) (E : Env) (H : Hp) (r : List Stp) (fs : List Bool) (ws : List (Option Wr)) : Prop where
  rl : r.length = (l.take m).length
  hl : fs.length = (l.take m).length
  wl : ws.length = (l.take m).length
  st : ∀ k o s f w, (l.take m)[k]? = some o → r[k]? = some s → fs[k]? = some f → ws[k]? = some w → StpS P tab im l.toArray o (envAt (l.take m) r E k) (visH f (hpAt r H k)) s w
  ok : wOkG (ws.filterMap id) (hpAt r H r.length)
  late : lateB l fs = true
theorem JdS.lookT [Dr] {L : Nat → Prop} {a : Act} {M : Mp} {j : Nat} (hO : OrdB l m) (hF : RunG P tab im l m E H r fs ws) (h : JdS n kb (l.take m) r ws E H X0 j L a M) (hc : Closed l L) {k : Nat} (hk : ¬ L k) {f : Bool} (hkk : fs[k]? = some f) : LookAt M (lookH (visH f (hpAt r H k))) := by
  have hkl : k < (l.take m).length := by rw [← hF.hl]; exact (List.getElem?_eq_some_iff.1 hkk).1
  intro b B O cells hb hcc
  cases f with
  | false => rw [lookH_c] at hcc; unfold visH at hcc; rw [if_neg (by decide), blkH_dead] at hcc; cases hcc
  | true =>
    have hcc' : lookH (hpAt r H k) b = some cells := hcc
    refine Sim.look h.sim b B O cells hb ?_
    have hd := h.sim.D_of hb
    rw [lookH_c] at hcc'
    rw [cells_some]
    unfold lookG
    rw [if_pos hd, appW_other _ _ fun w hw e => ?_]
    · have hlt : b < (hpAt r H k).length := blkH_lt (by rw [hcc']; simp)
      have hkeep := (hpAt_keep (r := r) (H := H) k r.length (by have := hF.rl; omega) (Nat.le_refl _)).2 b hlt
      rw [hkeep]; exact hcc'
    · obtain ⟨i, hi⟩ := List.getElem?_of_mem hw
      have hij : i < j := by
        have := (List.getElem?_eq_some_iff.1 hi).1
        rw [List.length_take] at this; omega
      rw [List.getElem?_take, if_pos hij] at hi
      have hlt : i < cntW ws ws.length := by unfold cntW; rw [List.take_length]; exact (List.getElem?_eq_some_iff.1 hi).1
      obtain ⟨k', w', q1, q2, q3⟩ := cntW_pos hlt
      have hL : L k' := (h.cnt k' w' q2).2 (by omega)
      have hk'l : k' < (l.take m).length := by rw [← hF.wl]; exact q1
      have hol : l[k']? = some (l.take m)[k'] := by have := List.getElem?_eq_getElem hk'l; rw [List.getElem?_take] at this; split at this; exact this; cases this
      have hst := hF.st k' _ _ _ _ (List.getElem?_eq_getElem hk'l) (List.getElem?_eq_getElem (by rw [hF.rl]; exact hk'l)) (List.getElem?_eq_getElem (by rw [hF.hl]; exact hk'l)) q2
      obtain ⟨b', q', xs'⟩ := w'
      obtain ⟨-, -, -, t', x', y', tx', i', hoc', -⟩ := hst
      have hlate := hF.late
      unfold lateB at hlate
      rw [List.all_eq_true] at hlate
      have h1 := hlate k' (List.mem_range.2 (List.getElem?_eq_some_iff.1 hol).1)
      have hsb : stB l[k']? = true := by rw [hol]; generalize (l.take m)[k'] = ok at hoc'; simp [stB, hoc']
      rw [hsb] at h1
      simp only [Bool.not_true, Bool.false_or] at h1
      rw [List.all_eq_true] at h1
      have h2 := h1 k (List.mem_range.2 (List.getElem?_eq_some_iff.1 hkk).1)
      have hfk : fs.getD k false = true := by simp [List.getD, hkk]
      rw [hfk] at h2
      simp only [Bool.not_true, Bool.false_or] at h2
      exact hk (mask_listed hO.back hc k' hL k h2)
theorem JdS.stepT [Dr] (hT : TabOk P tab) (hO : OrdB l m) (hch : chainB l m = true) (hF : RunG P tab im l m E H r fs ws)
    {L : Nat → Prop} {a : Act} {M : Mp} {j : Nat} (h : JdS n kb (l.take m) r ws E H X0 j L a M) (hc : Closed l L) {k : Nat} {o : Oper} (ho : (l.take m)[k]? = some o) (hk : ¬ L k) (hpre : ∀ e ∈ o.after, Region.binds .any e = true → L e.on) (hd : ∀ d, o.dst = some d → d < n)
    {r0 : Option Nat} {Q : Exit → Act → World → Prop} {K : Act → World → Prop} (hK : ∀ a' M' j', Evo X0 M M' → JdS n kb (l.take m) r ws E H X0 j' (fun i => L i ∨ i = k) a' M' → K a' M'.w) : wpOpIn (FW r0) 0 P l.toArray Q k K a M.w := by
  have hr := hF.rl
  have hkl : k < (l.take m).length := (List.getElem?_eq_some_iff.1 ho).1
  have hol : l[k]? = some o := by rw [List.getElem?_take] at ho; split at ho; exact ho; cases ho
  have hkm : k < m := by rw [List.length_take] at hkl; omega
  have hs' : r[k]? = some r[k] := List.getElem?_eq_getElem (by omega)
  obtain ⟨f', hh'⟩ : ∃ x, fs[k]? = some x := ⟨_, List.getElem?_eq_getElem (by rw [hF.hl]; omega)⟩
  obtain ⟨w, hw'⟩ : ∃ x, ws[k]? = some x := ⟨_, List.getElem?_eq_getElem (by rw [hF.wl]; omega)⟩
  have hstp := hF.st k o _ _ _ ho hs' hh' hw'
  generalize r[k] = s at hs' hstp
  have hlook := h.lookT hO hF hc hk hh'
  have hrd := fun (d : Nat) (t : T) => h.read hO hr hc ho hk hpre (d := d) (t := t)
  have hop : ∀ x ∈ o.op.operands.toList, ∀ t, (envAt (l.take m) r E k).opd x = some t → Rep M t (a.eval x) := by
    intro x hx t ht
    cases x with
    | tmp d =>
      obtain ⟨u, h1, h2⟩ := hrd d t (by simp only [readsOf, Oper.looksAt, List.mem_append, List.mem_filterMap]; exact .inl ⟨.tmp d, hx, rfl⟩) ht
      have : a.eval (.tmp d) = u := by show a.tmps.getD d undef = u; simp [h1]
      rw [this]; exact h2
    | const v => simp only [Env.opd] at ht; injection ht with ht; subst ht; exact rep_ofV v
    | func f => simp only [Env.opd] at ht; injection ht with ht; subst ht; exact ⟨[], [], rfl, rfl, rfl⟩
    | global g => simp only [Env.opd] at ht; injection ht with ht; subst ht; exact rfl
  unfold wpOpIn
  simp only [List.getElem?_toArray, hol]
  cases w with
  | some w =>
    obtain ⟨b, q, xs⟩ := w
    obtain ⟨rfl, hg, hdn, t, x, y, tx, i, hoc, hti, hx, hy, rfl, hxl⟩ := hstp
    have hw : Region.wanted o (yielded l.toArray a.tmps) = true := by simp [Region.wanted, hg]
    rw [hw, if_pos rfl]
    have hix := cntW_lt hw'
    have hij : cntW ws k = j := by
      have h1 : ¬ cntW ws k < j := fun hh => hk ((h.cnt k _ hw').2 hh)
      refine Nat.le_antisymm (Nat.le_of_not_lt fun hh => ?_) (by omega)
      obtain ⟨k', w', q1, q2, q3⟩ := cntW_pos hh
      have hk'l : k' < (l.take m).length := by rw [← hF.wl]; exact (List.getElem?_eq_some_iff.1 q2).1
      have ho' : (l.take m)[k']? = some (l.take m)[k'] := List.getElem?_eq_getElem hk'l
      have hst' := hF.st k' _ _ _ _ ho' (List.getElem?_eq_getElem (by omega)) (List.getElem?_eq_getElem (by rw [hF.hl]; omega)) q2
      obtain ⟨b', q', xs'⟩ := w'
      obtain ⟨-, -, -, t', x', y', tx', i', hoc', -⟩ := hst'
      have hol' : l[k']? = some (l.take m)[k'] := by have := ho'; rw [List.getElem?_take] at this; split at this; exact this; cases this
      have hL := mask_next hO.back hc hol hpre (chain_at hch hkm q1 hol hol' hoc hoc')
      have := (h.cnt k' _ q2).1 hL
      omega
    rw [hij] at hix
    have hsp : ws.filterMap id = (ws.filterMap id).take j ++ (b, q, flat tx) :: (ws.filterMap id).drop (j + 1) := by
      have h1 := (List.getElem?_eq_some_iff.1 hix)
      rw [← h1.2, ← List.drop_eq_getElem_cons h1.1, List.take_append_drop]
    have hok := hF.ok
    rw [hsp] at hok
    obtain ⟨cs, k1, k2, k3, k4⟩ := appW_snocG _ _ _ hok
    have htk : (ws.filterMap id).take (j + 1) = (ws.filterMap id).take j ++ [(b, q, flat tx)] := by rw [List.take_add_one, hix]; rfl
    have hrx := hop x (by rw [hoc]; simp [Op.operands]) _ hx
    have hry := hop y (by rw [hoc]; simp [Op.operands]) _ hy
    have hbb : b < H.length ∨ made r H L b := by obtain ⟨B, O, hb, -⟩ := hrx; exact h.sim.D_of hb
    have hbk : lookG r H (appW ((ws.filterMap id).take j) (hpAt r H r.length)) L b = .c cs := by unfold lookG; rw [if_pos hbb]; exact lookH_c.1 k1
    obtain ⟨M', e1, e2, e3⟩ := Sim.stored (P := P) hT h.sim hti hbk hrx hry hxl k2 k3
    have hnd : ∀ c, o.op ≠ .defer c := by rw [hoc]; simp
    refine wpIn_of hnd ?_
    obtain ⟨dst, op, ty, pos, after, guard⟩ := o
    simp only at hoc hdn
    subst hoc hdn
    have hrr : (execOp a.eval ⟨none, .store t x y, ty, pos, after, guard⟩).run P M.w = .ok .skip M'.w := by simp [execOp, e1]
    rw [hrr]
    refine hK _ _ (j + 1) e2 (h.next hO ho hs' hk hd e2 (e3.congr (fun c => ?_) (fun c => by rw [made_none hs' rfl])) (u := undef) rfl (fun k2' w2 hw2 => ?_) (fun w2 hw2 => ?_))
    · rw [lookG_none hs' rfl, htk, k4]
      unfold lookG updL
      by_cases hcb : c = b
      · subst hcb; rw [if_pos hbb, if_pos rfl, blkH_set _ _ _ _ (lookH_lt k1), if_pos rfl]
      · rw [if_neg hcb]
        dsimp only
        by_cases hcd : c < H.length ∨ made r H L c
        · rw [if_pos hcd, if_pos hcd, blkH_set _ _ _ _ (lookH_lt k1), if_neg hcb]
        · rw [if_neg hcd, if_neg hcd]
    · rw [h.cnt k2' w2 hw2]
      constructor
      · rintro (q1 | rfl) <;> omega
      · intro hh
        by_cases h2 : cntW ws k2' < j
        · exact .inl h2
        · refine .inr ?_
          rcases Nat.lt_trichotomy k2' k with q1 | q1 | q1
          · have := cntW_mono q1 hw2; omega
          · exact q1
          · have := cntW_mono q1 hw'; omega
    · rw [htk] at hw2
      rcases List.mem_append.1 hw2 with q1 | q1
      · exact (h.mkd w2 q1).imp id made_or
      · rw [List.mem_singleton] at q1; subst q1; exact hbb.imp id made_or
  | none =>
    have hcn : ∀ k' w, ws[k']? = some (some w) → ((L k' ∨ k' = k) ↔ cntW ws k' < j) := fun k' w hwk => by
      rw [← h.cnt k' w hwk]
      exact ⟨fun hh => hh.resolve_right (fun e => by subst e; rw [hw'] at hwk; injection hwk with hwk; cases hwk), Or.inl⟩
    have hmk : ∀ w ∈ (ws.filterMap id).take j, w.1 < H.length ∨ made r H (fun i => L i ∨ i = k) w.1 := fun w hw => (h.mkd w hw).imp id made_or
    have hgd : ∀ g want d b, o.guard = some (g, want) → (l.toArray[g]?).bind (·.dst) = some d → (envAt (l.take m) r E k).get d = some (.v (.bool b)) → yielded l.toArray a.tmps g = some b := by
      intro g want d b hg hgd hb
      have hgd' : (l[g]?.bind fun x => x.dst) = some d := by simpa using hgd
      obtain ⟨u, h1, h2⟩ := hrd d _ (by simp [readsOf, Oper.looksAt, hg]; exact .inr hgd') hb
      obtain rfl := h2
      simp [yielded, hgd', h1]
    rcases hstp with ⟨h1, h2, g, want, d, x, hg, hgdst, hb, hne⟩ | ⟨hg, hst⟩
    · have hw : Region.wanted o (yielded l.toArray a.tmps) = false := by
        have hgd' : (l[g]?.bind fun x => x.dst) = some d := by simpa using hgdst
        obtain ⟨u, q1, q2⟩ := hrd d _ (by simp [readsOf, Oper.looksAt, hg]; exact .inr hgd') hb
        obtain rfl := q2
        have hy : yielded l.toArray a.tmps g = match u with | .bool b => some b | _ => none := by simp only [yielded, List.getElem?_toArray, hgd', Option.bind_some, q1]; cases u <;> rfl
        simp only [Region.wanted, hg, hy]
        cases u <;> first | rfl | skip
        rename_i b
        cases b <;> cases want <;> first | rfl | exact absurd rfl hne
      rw [hw]
      refine ⟨fun _ _ => trivial, hK _ M j (Evo.refl _ _) (h.next hO ho hs' hk hd (Evo.refl _ _) (h.sim.congr (fun b => lookG_none hs' h2 b) fun b => by rw [made_none hs' h2]) (by rw [h1]; rfl) hcn hmk)⟩
    · have hw : Region.wanted o (yielded l.toArray a.tmps) = true := by
        rcases hg with hg | ⟨g, want, d, hg, hgdst, hb⟩
        · simp [Region.wanted, hg]
        · have hy := hgd g want d want hg hgdst hb
          simp [Region.wanted, hg, hy]
      rw [hw, if_pos rfl]
      have hnd : ∀ c, o.op ≠ .defer c := by
        rcases hst with ⟨t, nb, hm, -⟩ | ⟨f, args, ats, g, fs, cs, ts, hoc, -⟩
        · exact opM_op hm
        · rw [hoc]; simp
      refine wpIn_of hnd ?_
      rcases hst with ⟨t, nb, hm, hst⟩ | ⟨f, args, ats, g, fs, cs, ts, hoc, hf, hts, hcall, hnb⟩
      · have hmk' := opM_ok (M := M) (ρ' := a.eval) hT hlook hop hm
        rcases hst with ⟨hst, hnb⟩ | ⟨⟨e, cs⟩, rfl, hst, hnb⟩
        case inr =>
          obtain ⟨u, w', q1, q2, q3, q4⟩ := imm_new h.sim hmk' (opM_new hm)
          rw [q1]
          exact hK _ _ j q2 (h.next hO ho hs' hk hd q2 ((h.sim.world q2 q3).congr (fun b => lookG_none hs' hnb b) fun b => by rw [made_none hs' hnb]) (by rw [hst]; exact q4) hcn hmk)
        subst hst
        cases nb with
        | none =>
          obtain ⟨u, h1, h2⟩ := hmk'
          rw [h1]
          exact hK _ M j (Evo.refl _ _) (h.next hO ho hs' hk hd (Evo.refl _ _) (h.sim.congr (fun b => lookG_none hs' hnb b) fun b => by rw [made_none hs' hnb]) h2 hcn hmk)
        | some p =>
          obtain ⟨e, cs⟩ := p
          simp only [Option.map_some] at hnb
          rw [visH_len] at hmk'
          obtain ⟨u, ar, h1, h2, h3⟩ := hmk'
          rw [h1]
          have hid : ¬ (hpAt r H k).length < H.length := by have := (hp_start (r := r) (H := H) (k := k) (by omega)).1; omega
          have hnd' : ¬ made r H L (hpAt r H k).length := by
            rintro ⟨j', s', q1, q2, q3, q4⟩
            exact hk (new_ne q1 q2 hs' (by rw [hnb]; simp) q4 ▸ q3)
          have hnd : ¬ ((hpAt r H k).length < H.length ∨ made r H L (hpAt r H k).length) := fun hh => hh.elim hid hnd'
          obtain ⟨Ev, S, hsh⟩ := h.sim.new (nx := (hpAt r H k).length) hnd (w := { M.w with heap := M.w.heap.push (.cells ar e) }) rfl rfl ⟨rfl, fun _ => Nat.le_refl _⟩ rfl (fun j _ hj => by simp at hj) h2
          have hmade : ∀ b, made r H (fun j => L j ∨ j = k) b ↔ made r H L b ∨ b = (hpAt r H k).length := fun b => by
            constructor
            · rintro ⟨j, s', q1, q2, q3 | q3, q4⟩
              · exact .inl ⟨j, s', q1, q2, q3, q4⟩
              · subst q3; exact .inr q4.symm
            · rintro (⟨j, s', q1, q2, q3, q4⟩ | q)
              · exact ⟨j, s', q1, q2, .inl q3, q4⟩
              · exact ⟨k, s, hs', by rw [hnb]; simp, .inr rfl, q.symm⟩
          refine hK _ (newM M _ _) j Ev (h.next hO ho hs' hk hd Ev (S.congr (fun b => ?_) (fun b => ?_)) (h3 _ (if_pos rfl) hsh) hcn hmk)
          · unfold lookG
            by_cases hb : b = (hpAt r H k).length
            · subst hb
              rw [if_pos (.inr ((hmade _).2 (.inr rfl))), if_pos rfl, appW_other _ _ fun w hw e => ?_]
              · exact (new_at hs' hnb).2
              · have := h.mkd w hw
                rw [e] at this
                exact hnd this
            · rw [if_neg hb]
              by_cases hbD : b < H.length ∨ made r H L b
              · rw [if_pos hbD, if_pos (hbD.imp id fun hh => (hmade b).2 (.inl hh))]
              · rw [if_neg hbD, if_neg fun hh => hbD (hh.imp id fun q => ((hmade b).1 q).resolve_right hb)]
          · rw [hmade, or_assoc]
      · obtain ⟨dst, op, ty, pos, after, guard⟩ := o
        simp only at hoc hop hd
        subst hoc
        obtain ⟨us, vs, e1, r1, r2⟩ := hop f (by simp [Op.operands, Call.operands]) _ hf
        have r3 := optL_ok (M := M) (ρ' := a.eval) _ _ (fun x hx t ht => hop x (by simp [Op.operands, Call.operands]; exact .inr (by simpa using hx)) t ht) hts
        have hrr : (execOp a.eval ⟨dst, .call ⟨.value f, args, ats⟩, ty, pos, after, guard⟩).run P M.w = .ok (.enter g (us ++ args.toList.map a.eval ++ vs).toArray) M.w := by
          simp only [execOp, resolve, Sem.run_bind, e1, Deferred.ofValue, Sem.run_pure, Result.andThen_ok, invoke]
          rw [run_goFunc _ _ _ hcall.2.2.1, ← map_arr]
          simp
        rw [hrr]
        refine ⟨fun hh => (by cases hh), callsIn_wide.2 ((hcall.run X0 M _ h.sim.bnd h.sim.glo (RepL.append (RepL.append r1 r3) r2)).mono ?_)⟩
        rintro e w' ⟨u, rfl, k1, k2, k3⟩
        exact hK _ _ j k1 (h.next hO ho hs' hk hd k1 ((h.sim.world k1 k3).congr (fun b => lookG_none hs' hnb b) fun b => by rw [made_none hs' hnb]) k2 hcn hmk)
theorem JdS.finT [Dr] {L : Nat → Prop} {a : Act} {M : Mp} {j : Nat} (hO : OrdB l m) (hF : RunG P tab im l m E H r fs ws) (h : JdS n kb (l.take m) r ws E H X0 j L a M) (hL : ∀ k, k < (l.take m).length → L k) : St n kb (envAt (l.take m) r E (l.take m).length) (appW (ws.filterMap id) (hpAt r H (l.take m).length)) X0 a M := by
  have hr := hF.rl
  have hdis : ∀ (i j : Nat) (oi oj : Oper), (l.take m)[i]? = some oi → (l.take m)[j]? = some oj → i ≠ j → ∀ d, oi.dst = some d → oj.dst ≠ some d := fun i j oi oj hi hj hij d hdi => (hO.pair j oj i oi hj hi hij d hdi).1
  have hmd : ∀ b, made r H L b ↔ ¬ b < H.length ∧ b < (hpAt r H r.length).length := fun b => by
    constructor
    · rintro ⟨k, s, q1, q2, -, q4⟩
      have hk := (List.getElem?_eq_some_iff.1 q1).1
      obtain ⟨cs, hcs⟩ := Option.ne_none_iff_exists'.1 q2
      have h1 := (new_at (H := H) q1 hcs).1
      have h2 := (hpAt_keep (r := r) (H := H) (k + 1) r.length hk (Nat.le_refl _)).1
      have h3 := (hp_start (r := r) (H := H) (k := k) (by omega)).1
      omega
    · rintro ⟨h1, h2⟩
      obtain ⟨j, s, q1, q2, q3, q4⟩ := made_all (Nat.le_refl _) h2 h1
      exact ⟨j, s, q2, q3, hL j (by omega), q4⟩
  have htk : (ws.filterMap id).take j = ws.filterMap id := by
    refine List.take_of_length_le (Nat.le_of_not_lt fun hh => ?_)
    have e : (ws.filterMap id).length = cntW ws ws.length := by unfold cntW; rw [List.take_length]
    rw [e] at hh
    obtain ⟨k', w, q1, q2, q3⟩ := cntW_pos hh
    have := (h.cnt k' w q2).1 (hL k' (by rw [← hF.wl]; exact q1))
    omega
  refine ⟨fun d t ht => ?_, h.sz, h.df, h.ge, h.sim.congr (fun b => ?_) (fun b => ?_)⟩
  · obtain ⟨g1, g2⟩ := env_get (E := E) (d := d) hr (Nat.le_refl _) hdis
    by_cases hw : ∃ j oj, j < (l.take m).length ∧ (l.take m)[j]? = some oj ∧ oj.dst = some d
    · obtain ⟨j, oj, hj, hoj, hdj⟩ := hw
      have hs : r[j]? = some r[j] := List.getElem?_eq_getElem (by omega)
      rw [g1 j oj _ hj hoj hs hdj] at ht
      injection ht with ht; subst ht
      exact h.slot j oj _ d hoj hs (hL j hj) hdj
    · rw [g2 fun j oj hj hoj hdj => hw ⟨j, oj, hj, hoj, hdj⟩] at ht
      exact h.old d t ht fun j oj hoj _ hdj => hw ⟨j, oj, (List.getElem?_eq_some_iff.1 hoj).1, hoj, hdj⟩
  · rw [← hr, htk]
    unfold lookG
    by_cases hb : b < H.length ∨ made r H L b
    · rw [if_pos hb]
    · rw [if_neg hb]
      refine Classical.byContradiction fun hne => hb ?_
      have hlt := blkH_lt hne
      rw [appW_len] at hlt
      by_cases hbH : b < H.length
      · exact .inl hbH
      · exact .inr ((hmd b).2 ⟨hbH, hlt⟩)
  · rw [← hr, appW_len, hmd]
    have := (hp_start (r := r) (H := H) (k := r.length) (Nat.le_refl _)).1
    omega
theorem draw_anyT [Dr] (hT : TabOk P tab) (hO : OrdB l m) (hch : chainB l m = true) (hd : dstB n l = true) (hF : RunG P tab im l m E H r fs ws)
    {r0 : Option Nat} {Q : Exit → Act → World → Prop} (hQ : ∀ a M, Evo X0 M0 M → St n kb (envAt (l.take m) r E (l.take m).length) (appW (ws.filterMap id) (hpAt r H (l.take m).length)) X0 a M → wpListIn (FW r0) 0 P l.toArray Q (l.drop m) a M.w) :
    ∀ (fuel : Nat) (listed : Array Bool) (a : Act) (M : Mp) (j : Nat), leftB l listed ≤ fuel → listed.size = l.length → Closed l (lsd listed) → (∀ k, m ≤ k → ¬ lsd listed k) → Evo X0 M0 M → JdS n kb (l.take m) r ws E H X0 j (lsd listed) a M → wpAnyIn (FW r0) 0 P .any l.toArray Q fuel listed a M.w := by
  have hml : (l.take m).length = m := by rw [List.length_take]; have := hO.le; omega
  intro fuel
  have fin : ∀ (fuel : Nat) (listed : Array Bool) (a : Act) (M : Mp) (j : Nat), leftB l listed ≤ fuel → listed.size = l.length → (∀ k, m ≤ k → ¬ lsd listed k) → (∀ k, k < m → lsd listed k) → Evo X0 M0 M → JdS n kb (l.take m) r ws E H X0 j (lsd listed) a M → wpAnyIn (FW r0) 0 P .any l.toArray Q fuel listed a M.w := by
    intro fuel listed a M j hf hsz hno hall hE hJ
    refine tail_any hO fuel listed m a M.w ?_ hsz (Nat.le_refl _) hO.le (fun k => ⟨fun h => ?_, hall k⟩) (hQ a M hE (hJ.finT hO hF fun k hk => hall k (by omega)))
    · have h1 : leftB l listed = l.length - m := by
        unfold leftB
        have e : List.range l.length = List.range m ++ (List.range (l.length - m)).map (m + ·) := by
          rw [← List.range_add, show m + (l.length - m) = l.length from by have := hO.le; omega]
        rw [e, List.countP_append]
        have e1 : (List.range m).countP (fun k => !listed.getD k false) = 0 := by
          rw [List.countP_eq_zero]
          intro k hk
          have := hall k (List.mem_range.1 hk)
          unfold lsd at this
          simpa using this
        have e2 : ((List.range (l.length - m)).map (m + ·)).countP (fun k => !listed.getD k false) = l.length - m := by
          rw [List.countP_eq_length.2]
          · simp
          · intro k hk
            rw [List.mem_map] at hk
            obtain ⟨q, -, rfl⟩ := hk
            have := hno (m + q) (by omega)
            unfold lsd at this
            simpa using this
        omega
      omega
    · exact Nat.lt_of_not_le fun hk => hno k hk h
  induction fuel with
  | zero =>
    intro listed a M j hf hsz hc hno hE hJ
    by_cases hall : ∀ k, k < m → lsd listed k
    · exact fin 0 listed a M j hf hsz hno hall hE hJ
    · exfalso
      have h0 : leftB l listed = 0 := by omega
      unfold leftB at h0
      rw [List.countP_eq_zero] at h0
      apply hall
      intro k hk
      have := h0 k (List.mem_range.2 (by have := hO.le; omega))
      unfold lsd
      simpa using this
  | succ fuel ih =>
    intro listed a M j hf hsz hc hno hE hJ
    by_cases hall : ∀ k, k < m → lsd listed k
    · exact fin _ listed a M j hf hsz hno hall hE hJ
    · have hnext : ∃ i o, i < m ∧ l[i]? = some o ∧ ¬ lsd listed i ∧ ∀ e ∈ o.after, Region.binds .any e = true → lsd listed e.on := by
        have hex : ∃ k, k < m ∧ ¬ lsd listed k := by
          apply Classical.byContradiction
          intro h
          exact hall fun k hk => Classical.byContradiction fun hn => h ⟨k, hk, hn⟩
        obtain ⟨i, ⟨h1, h2⟩, hmin⟩ := least_nat hex
        have hile : i < l.length := by have := hO.le; omega
        have ho : l[i]? = some l[i] := List.getElem?_eq_getElem hile
        refine ⟨i, _, h1, ho, h2, fun e he hb => ?_⟩
        have hlt := back_at l 0 i _ hO.back ho e he hb
        exact Classical.byContradiction fun hn => by have := hmin e.on ⟨by omega, hn⟩; omega
      refine ⟨fun hr0 => ?_, fun i hi => ?_⟩
      · obtain ⟨i, o, h1, h2, h3, h4⟩ := hnext
        have := ready_of hsz h2 h3 h4
        rw [hr0] at this; cases this
      · obtain ⟨o, ho, hn, hp⟩ := ready_facts hsz hi
        have hil := (List.getElem?_eq_some_iff.1 ho).1
        have him : i < m := by
          refine Nat.lt_of_not_le fun hmi => ?_
          apply hall
          intro k hk
          exact mask_next hO.back hc ho hp (hO.full i hmi hil k (by omega))
        have hop : (l.take m)[i]? = some o := by rw [List.getElem?_take, if_pos him]; exact ho
        have hdo : ∀ d, o.dst = some d → d < n := fun d hdd => by
          unfold dstB at hd
          rw [List.all_eq_true] at hd
          have := hd o (List.mem_of_getElem? ho)
          rw [hdd] at this; simpa using this
        refine JdS.stepT hT hO hch hF hJ hc hop hn hp hdo fun a' M' j' hE' hJ' => ?_
        have hiff : ∀ k, lsd (listed.setIfInBounds i true) k ↔ lsd listed k ∨ k = i := lsd_set (by omega)
        have hfun : lsd (listed.setIfInBounds i true) = fun k => lsd listed k ∨ k = i := funext fun k => propext (hiff k)
        refine ih _ a' M' j' ?_ (by simpa using hsz) (fun k ok hok hk e he hb => ?_) (fun k hk h => ?_) (hE.trans hE') (by rw [hfun]; exact hJ')
        · have := leftB_set hsz hil hn; omega
        · rw [hiff] at hk ⊢
          rcases hk with hk | rfl
          · exact .inl (hc k ok hok hk e he hb)
          · rw [ho] at hok; injection hok with hok; subst hok; exact .inl (hp e he hb)
        · rcases (hiff k).1 h with h | h
          · exact hno k hk h
          · omega
theorem VC.drawT [Dr] {id : Nat} {QT : Exit → Env → Hp → Prop} (hT : TabOk P tab) (im : List Nat) (m : Nat) (hm : P.follows .mixedOrders = true) (hB : drawB n m l = true) (hch : chainB l m = true)
    (h : ∃ r fs ws E' F', RunT P tab im l.toArray (l.take m) E H r fs ws E' F' ∧ lateB l fs = true ∧ wOkG (ws.filterMap (·)) F' ∧ vcSeq P tab im (l.map (·.dst)) (l.drop m) E' (appW (ws.filterMap (·)) F') (QT .normal)) : VC z P n lb (.region id l.toArray true) QT E H := by
  intro X0 M a r0 kb hz hs
  obtain ⟨hO, hd⟩ := ord_of hB
  obtain ⟨r, fs, ws, E', F', hrun, hlate, hok, hk⟩ := h
  obtain ⟨h1, h2, h3, h4, h5, h6⟩ := runT_at hrun
  have hF : RunG P tab im l m E H r fs ws := ⟨h1, h2, h3, h6, by rw [h1, ← h5]; exact hok, hlate⟩
  refine wpIn_region_any hm ?_
  let M1 : Mp := ⟨M.β, M.X, { M.w with drawn := M.w.drawn + 1 }⟩
  have hE1 : Evo X0 M M1 := ⟨fun _ _ h => h, fun _ _ h => h, fun _ _ _ => rfl, fun _ _ h => h, rfl, ⟨rfl, fun _ => Nat.le_succ _⟩, rfl, Nat.le_refl _⟩
  have hs1 : St n kb E H X0 a M1 := ⟨fun d t ht => by obtain ⟨u, q1, q2⟩ := hs.tm d t ht; exact ⟨u, q1, Rep.stays hE1.stays _ _ q2⟩, hs.sz, hs.df.evo hE1, hs.ge, hs.sim.world hE1 fun _ _ => rfl⟩
  have hno : ∀ k, ¬ lsd (Array.replicate l.toArray.size false) k := fun k hk => by
    unfold lsd at hk
    by_cases hlt : k < l.length
    · simp [hlt] at hk
    · simp [hlt] at hk
  have hmd : ∀ b, ¬ made r H (lsd (Array.replicate l.toArray.size false)) b := fun b ⟨k, s, _, _, hk, _⟩ => hno k hk
  have := draw_anyT (r0 := r0) (X0 := X0) (M0 := M) (Q := Lift n kb lb X0 M QT) hT hO hch hd hF (fun a' M' hE' hs' => by
    rw [← h4, ← h5] at hs'
    refine vcSeq_ok (im := im) hT _ ?_ hs' (fun E2 H2 a2 M2 k1 k2 k3 => ⟨E2, H2, M2, k1, rfl, (hE'.trans k2).toK lb, k3⟩) hk
    unfold dstB at hd ⊢
    rw [List.all_eq_true] at hd ⊢
    exact fun o ho => hd o (List.mem_of_mem_drop ho)) l.toArray.size (Array.replicate l.toArray.size false) a M1 0 (Nat.le_trans List.countP_le_length (by simp)) (by simp) (fun k o _ hk => absurd hk (hno k)) (fun k _ => hno k) hE1
    ⟨hs1.sim.congr (fun b => by
        unfold lookG
        rw [List.take_zero]
        by_cases hb : b < H.length
        · rw [if_pos (.inl hb)]; exact (hp_start (Nat.le_refl _)).2 b hb
        · rw [if_neg fun hh => hh.elim hb (hmd b)]
          exact Classical.byContradiction fun hne => hb (blkH_lt fun e => hne (by rw [e]))) (fun b => ⟨fun h => h.elim (fun h => h) fun h => absurd h (hmd b), .inl⟩),
     fun k o s d _ _ hk => absurd hk (hno k), fun d t ht _ => hs1.tm d t ht, hs1.sz, hs1.df, hs1.ge, fun k w _ => ⟨fun hk => absurd hk (hno k), fun hh => by omega⟩, fun w hw => by rw [List.take_zero] at hw; cases hw⟩
  exact this
end
def VT [Dr] (P : Program) (tab : Tab) (im : List Nat) (ops : Array Oper) (l : List Oper) (E : Env) (F : Hp) (W : List Wr) (fl : List Bool) (K : Env → Hp → List Bool → Prop) : Prop :=
  ∀ E2, Sub E E2 → ∃ r fs ws E' F', RunT P tab im ops l E2 F r fs ws E' F' ∧ wOkG (W ++ ws.filterMap (·)) F' ∧ ∃ E1, Sub E1 E' ∧ K E1 (appW (W ++ ws.filterMap (·)) F') (fl ++ fs)
section
variable {z : Bool} {P : Program} {tab : Tab} {n lb : Nat} {im : List Nat} {ops : Array Oper} {l : List Oper} {E : Env} {F : Hp} {W : List Wr} {fl : List Bool} {K : Env → Hp → List Bool → Prop}
theorem VT.nil [Dr] (hw : wOkG W F) (h : K E (appW W F) fl) : VT P tab im ops [] E F W fl K := fun E2 he =>
  ⟨[], [], [], E2, F, .nil _ _, by simpa using hw, E, he, by simpa using h⟩
theorem VT.sto [Dr] {t : Nat} {a x : Operand} {ty : TypeId} {pos : String} {after : Array Edge} {b q : Nat} {tx : T} {i : TyI} (hT : tab t = some i) (ha : E.opd a = some (.ptr b q)) (hx : E.opd x = some tx) (hl : (flat tx).length = i.sz) (k : VT P tab im ops l E F (W ++ [(b, q, flat tx)]) (fl ++ [false]) K) : VT P tab im ops (⟨none, .store t a x, ty, pos, after, none⟩ :: l) E F W fl K := fun E2 he => by
  obtain ⟨r, fs, ws, E', F', h1, h2, E1, h3, h4⟩ := k _ he
  refine ⟨⟨.v undef, none⟩ :: r, false :: fs, some (b, q, flat tx) :: ws, E', F', .sto rfl rfl rfl hT (he.opd ha) (he.opd hx) hl h1, ?_, E1, h3, ?_⟩
  · simpa using h2
  · simpa using h4
theorem run_runT [Dr] {f : Bool} {l1 l2 : List Oper} {E1 : Env} {H1 : Hp} {H0 : Hp} {r1 : List Stp} (h : Run P tab im ops l1 E H0 r1 E1 H1) (hno : H1 = H0) (hf : H0 = visH f F) : ∀ {r : List Stp} {fs : List Bool} {ws : List (Option Wr)} {E' : Env} {F' : Hp}, RunT P tab im ops l2 E1 F r fs ws E' F' →
    ∃ r' fs' ws', RunT P tab im ops (l1 ++ l2) E F r' fs' ws' E' F' ∧ ws'.filterMap (·) = ws.filterMap (·) ∧ fs' = List.replicate l1.length f ++ fs := by
  induction h with
  | nil E H => intro r fs ws E' F' k; exact ⟨r, fs, ws, k, rfl, rfl⟩
  | @cons o l E H s r1 E1 H1 h k ih =>
    intro r fs ws E' F' k2
    obtain ⟨x, hx⟩ := run_ext k
    have e : newsOf s.nb = [] := by
      rw [hno, List.append_assoc] at hx
      have := List.append_cancel_left (show H ++ [] = H ++ (newsOf s.nb ++ x) by rw [List.append_nil]; exact hx)
      exact (List.append_eq_nil_iff.1 this.symm).1
    rw [e, List.append_nil] at k ih
    obtain ⟨r', fs', ws', g1, g2, g3⟩ := ih hno hf k2
    refine ⟨s :: r', f :: fs', none :: ws', .one (hf ▸ h) (by rw [e, List.append_nil]; exact g1), by simpa using g2, by rw [g3]; rfl⟩
theorem VT.seg [Dr] {l1 l2 : List Oper} (f : Bool) (hl : l = l1 ++ l2) (h : VX true P tab im (ops.toList.map (·.dst)) l1 E (visH f F) fun E1 H1 => H1 = visH f F ∧ VT P tab im ops l2 E1 F W (fl ++ List.replicate l1.length f) K) : VT P tab im ops l E F W fl K := fun E2 he => by
  subst hl
  obtain ⟨r1, E1, H1, hr, E3, he3, hh, hv⟩ := vcDraw_run (ops := ops) _ _ _ (h E2 he)
  obtain ⟨r, fs, ws, E', F', k1, k2, E4, k3, k4⟩ := hv _ he3
  obtain ⟨r', fs', ws', g1, g2, g3⟩ := run_runT (f := f) hr hh rfl k1
  exact ⟨r', fs', ws', E', F', g1, by rw [g2]; exact k2, E4, k3, by rw [g2, g3, ← List.append_assoc]; exact k4⟩
end
section
variable {z : Bool} {P : Program} {tab : Tab} {n lb : Nat} {E : Env} {H : Hp} {QT : Exit → Env → Hp → Prop}
theorem VC.drwTN [Dr] {id : Nat} {l l2 : List Oper} (hT : TabOk P tab) (im : List Nat) (l1 : List Oper) (fl : List Bool) (hl : l = l1 ++ l2) (hm : P.follows .mixedOrders = true) (hB : drawB n l1.length l = true) (hch : chainB l l1.length = true) (hlt : lateB l fl = true) (h : VT P tab im l.toArray l1 E H [] [] fun E H f => f = fl ∧ VX false P tab im (l.map (·.dst)) l2 E H (QT .normal)) : VC z P n lb (.region id l.toArray true) QT E H := by
  have e1 : l.take l1.length = l1 := by rw [hl, List.take_left]
  have e2 : l.drop l1.length = l2 := by rw [hl, List.drop_left]
  obtain ⟨r, fs, ws, E', F', h1, h2, E1, h3, h5, h4⟩ := h E (Sub.refl E)
  have h5' : fs = fl := by simpa using h5
  refine VC.eqv (VC.drawT hT im l1.length hm hB hch ⟨r, fs, ws, E', F', by rw [e1]; exact h1, by rw [h5']; exact hlt, by simpa using h2, ?_⟩)
  rw [e2]
  have := h4 E' h3
  simpa using this
theorem VC.drwT [Dr] {id : Nat} {l l2 : List Oper} {c : Code} (hT : TabOk P tab) (im : List Nat) (l1 : List Oper) (fl : List Bool) (hl : l = l1 ++ l2) (hm : P.follows .mixedOrders = true) (hB : drawB n l1.length l = true) (hch : chainB l l1.length = true) (hlt : lateB l fl = true) (h : VT P tab im l.toArray l1 E H [] [] fun E H f => f = fl ∧ VX false P tab im (l.map (·.dst)) l2 E H fun E H => VC z P n lb c QT E H) : VC z P n lb (.seq (.region id l.toArray true) c) QT E H := VC.seq (VC.drwTN hT im l1 fl hl hm hB hch hlt h)
end
end
section
open Go.RowKit
set_option maxRecDepth 100000
set_option maxHeartbeats 2000000
def keyO (code mods : Int) : Ot := ⟨2, 1, 0, [1048577, 0, code, mods, 0, 0, 0, 0, 5], [], []⟩
theorem key55_p (code mods : Int) : CallP Tryz.prog 11 [I64 code, I64 mods] (otT (keyO code mods)) := by
  refine CallP.intro2 au_pu au_pu ?_
  refine CallT.intro tab_ok Tryz.func11 rfl (by kernel_rfl) (Nat.le_of_ble_eq_true rfl) ?_
  refine VC.reg tab_ok [] rfl ?_
  refine VX.new rfl rfl ?_
  refine VX.nil ?_
  refine VC.reg tab_ok [] rfl ?_
  iterate 2 refine VX.meek rfl ?_
  refine VX.new rfl rfl ?_
  refine VX.meek rfl ?_
  refine VX.store rfl rfl rfl rfl rfl au_s rfl ?_
  refine VX.nil ?_
  refine VC.ret ?_
  exact ⟨trivial, _, rfl, Cv.agg au_fr⟩
theorem text_p (e : Ed) : CallP Tryz.prog 12 [edT e] (strT e.c.bf.text) := by
  have hp := ed_pure e
  have hte := btext_p e.c.bf
  refine CallP.intro2 au_pu au_pu ?_
  refine CallT.intro tab_ok Tryz.func12 rfl (by kernel_rfl) (Nat.le_of_ble_eq_true rfl) ?_
  refine VC.reg tab_ok [1] rfl ?_
  refine VX.newI rfl rfl ?_
  refine VX.meek rfl ?_
  refine VX.nil ?_
  refine VC.reg tab_ok [] rfl ?_
  refine VX.meek rfl ?_
  first | refine VX.meek rfl ?_ | refine VX.loadI rfl rfl au_l ?_ | refine VX.loadP rfl rfl rfl au_l ?_
  refine VX.callP0 rfl rfl rfl (hte) ?_
  refine VX.meek rfl ?_
  refine VX.nil ?_
  refine VC.ret ?_
  exact ⟨trivial, _, rfl, Cv.eq rfl rfl⟩
theorem curs_p (e : Ed) : CallP Tryz.prog 13 [edT e] (I64 (e.c.cur : Nat)) := by
  have hp := ed_pure e
  refine CallP.intro2 au_pu au_pu ?_
  refine CallT.intro tab_ok Tryz.func13 rfl (by kernel_rfl) (Nat.le_of_ble_eq_true rfl) ?_
  refine VC.reg tab_ok [1] rfl ?_
  refine VX.newI rfl rfl ?_
  refine VX.meek rfl ?_
  refine VX.nil ?_
  refine VC.reg tab_ok [] rfl ?_
  iterate 2 refine VX.meek rfl ?_
  first | refine VX.meek rfl ?_ | refine VX.loadI rfl rfl au_l ?_ | refine VX.loadP rfl rfl rfl au_l ?_
  refine VX.meek rfl ?_
  refine VX.nil ?_
  refine VC.ret ?_
  exact ⟨trivial, _, rfl, Cv.eq rfl rfl⟩
theorem marked_p (e : Ed) : CallP Tryz.prog 21 [edT e] (.tup [I64 (e.c.lo : Nat), I64 (e.c.hi : Nat)]) := by
  have hp := ed_pure e
  have hsp := span_p e.c
  refine CallP.intro2 au_pu au_pu ?_
  refine CallT.intro tab_ok Tryz.func21 rfl (by kernel_rfl) (Nat.le_of_ble_eq_true rfl) ?_
  refine VC.reg tab_ok [1] rfl ?_
  refine VX.newI rfl rfl ?_
  iterate 2 refine VX.meek rfl ?_
  refine VX.nil ?_
  refine VC.reg tab_ok [] rfl ?_
  refine VX.meek rfl ?_
  first | refine VX.meek rfl ?_ | refine VX.loadI rfl rfl au_l ?_ | refine VX.loadP rfl rfl rfl au_l ?_
  refine VX.callP0 rfl rfl rfl (hsp) ?_
  iterate 4 refine VX.meek rfl ?_
  refine VX.nil ?_
  refine VC.ret ?_
  exact ⟨trivial, _, rfl, Cv.eq rfl rfl⟩
theorem right55_p (s : List UInt8) (hs : s.length ≤ 100000) : CallP Tryz.prog 8 [strT s] (BL (rightB s)) := by
  refine CallP.intro2 au_pu au_pu ?_
  refine CallT.intro tab_ok Tryz.func8 rfl (by kernel_rfl) (Nat.le_of_ble_eq_true rfl) ?_
  refine VC.reg tab_ok [] rfl ?_
  refine VX.meek rfl ?_
  refine VX.nil ?_
  refine VC.seq ?_
  refine VC.reg tab_ok [] rfl ?_
  refine VX.meek rfl ?_
  refine VX.nil ?_
  refine VC.block ?_
  refine VC.loopS (σ := Nat) (fun j => s.length - j) (fun j => j ≤ s.length ∧ rightB (s.take j) = true) (fun j => [(3, I64 (j : Nat))]) (fun j => []) [0] rfl (0) ?_ ?_ ?_
  · refine ⟨[], rfl, by first | trivial | decide, by first | rfl | (simp only [noO, Bool.and_true, Bool.and_eq_true]; first | assumption | (refine ⟨?_, ?_⟩ <;> assumption)) | (simp only [noO, *, Bool.and_true, Bool.true_and, Bool.and_self]; done), ?_, ?_⟩ <;> (repeat' first | exact trivial | exact CvB_n | exact CvB_d | exact CvB_o rfl | refine CvE_app ?_ ?_ | refine CvE_cons rfl ?_ ?_ | refine CvH_cons ?_ ?_ | refine CvB_c rfl ?_ | fail) <;> first | exact au_v | (exact CvL.pure rfl)
  · exact ⟨Nat.zero_le _, rfl⟩
  rintro j hj
  refine VC.seq ?_
  refine VC.reg tab_ok [] rfl ?_
  iterate 2 refine VX.meek rfl ?_
  refine VX.meek (t := I64 (s.length : Nat)) rfl ?_
  refine VX.meek rfl ?_
  refine VX.nil ?_
  refine VC.cond rfl (fun hc0 => ?_) (fun hc0 => ?_)
  · (try simp only [au_std] at hc0); obtain ⟨hj1, hj2⟩ := hj; have hat : s[j]? = some (s[j]?.getD 0) := (by rw [List.getElem?_eq_getElem (by omega)]; rfl); have hnx : rightB (s.take (j + 1)) = (okB (s[j]?.getD 0)) := (by unfold rightB at *; rw [List.take_add_one, List.all_append, hj2, hat]; simp)
    refine VC.skip ?_
    refine VC.seq ?_
    refine VC.block ?_
    refine VC.reg tab_ok [] rfl ?_
    iterate 2 refine VX.meek rfl ?_
    refine VX.idxY rfl rfl rfl rfl rfl hat ?_
    iterate 2 refine VX.meek rfl ?_
    refine' VX.merge (d := 25) [_, _, _, _, _, _, _, _, _, _, _] rfl ?_ rfl ?_
    rotate_left
    · refine VX.guard rfl rfl (fun hb4_4 => ?_) (fun hb4_4 => ?_)
      · have ghb4_4 := hb4_4
        try simp only [au_std, Bool.not_true, Bool.not_false] at ghb4_4
        refine VX.meek rfl ?_
        refine VX.guardT rfl rfl hb4_4 ?_
        refine VX.meek rfl ?_
        refine VX.guardT rfl rfl hb4_4 ?_
        refine VX.idxY rfl rfl rfl rfl rfl hat ?_
        refine VX.guardT rfl rfl hb4_4 ?_
        refine VX.meek rfl ?_
        refine VX.guardT rfl rfl hb4_4 ?_
        refine VX.meek rfl ?_
        refine' VX.merge (d := 24) [_, _, _, _, _] rfl ?_ rfl ?_
        rotate_left
        · refine VX.guard rfl rfl (fun hb4_9 => ?_) (fun hb4_9 => ?_)
          · have ghb4_9 := hb4_9
            try simp only [au_std, Bool.not_true, Bool.not_false] at ghb4_9
            refine VX.meek rfl ?_
            refine VX.guardT rfl rfl hb4_9 ?_
            refine VX.meek rfl ?_
            refine VX.guardT rfl rfl hb4_9 ?_
            refine VX.idxY rfl rfl rfl rfl rfl hat ?_
            refine VX.guardT rfl rfl hb4_9 ?_
            refine VX.meek rfl ?_
            refine VX.guardT rfl rfl hb4_4 ?_
            refine VX.pickO rfl (fun _ => rfl) ?_
            exact VX.nil ⟨rfl, rfl⟩
          · refine VX.guardF rfl rfl hb4_9 ?_
            iterate 2 refine VX.guardF rfl rfl hb4_9 ?_
            refine VX.guardT rfl rfl hb4_4 ?_
            exact VX.pickO rfl (fun h => absurd (h.symm.trans hb4_9) (by decide)) (VX.nil ⟨rfl, rfl⟩)
        refine VX.pickA rfl (fun _ => rfl) ?_
        exact VX.nil ⟨rfl, rfl⟩
      · refine VX.guardF rfl rfl hb4_4 ?_
        iterate 3 refine VX.guardF rfl rfl hb4_4 ?_
        iterate 4 refine VX.guardU rfl rfl ?_
        refine VX.guardF rfl rfl hb4_4 ?_
        exact VX.pickA rfl (fun h => absurd (h.symm.trans hb4_4) (by decide)) (VX.nil ⟨rfl, rfl⟩)
    refine VX.nil ?_
    refine VC.cond rfl (fun hc1 => ?_) (fun hc1 => ?_)
    · (try simp only [au_std] at hc1); have e1 : rightB s = false := rightB_not (i := j) (by omega) (by unfold okB; simp; omega)
      refine VC.reg tab_ok [] rfl ?_
      refine VX.meek rfl ?_
      refine VX.nil ?_
      refine VC.ret ?_
      exact ⟨trivial, _, rfl, Cv.eq (by rw [e1]; rfl) rfl⟩
    · (try simp only [au_std] at hc1); have e1 : rightB (s.take (j + 1)) = true := (by rw [hnx]; unfold okB; simp; omega)
      refine VC.skip ?_
      refine VC.regN tab_ok [] rfl ?_
      refine VX.meek rfl ?_
      first | refine VX.add rfl rfl (by omega) ?_ | refine VX.meek rfl ?_
      refine VX.meek rfl ?_
      refine VX.nil ?_
      refine ⟨j + 1, by (try dsimp only); omega, ?_, (by refine ⟨[], rfl, by first | trivial | decide, by first | rfl | (simp only [noO, Bool.and_true, Bool.and_eq_true]; first | assumption | (refine ⟨?_, ?_⟩ <;> assumption)) | (simp only [noO, *, Bool.and_true, Bool.true_and, Bool.and_self]; done), ?_, ?_⟩ <;> (repeat' first | exact trivial | exact CvB_n | exact CvB_d | exact CvB_o rfl | refine CvE_app ?_ ?_ | refine CvE_cons rfl ?_ ?_ | refine CvH_cons ?_ ?_ | refine CvB_c rfl ?_ | fail) <;> first | exact au_v | (first | exact CvL.pure rfl | exact Cv.pure rfl))⟩
      exact ⟨by omega, e1⟩
  · (try simp only [au_std] at hc0); obtain ⟨hj1, hj2⟩ := hj; obtain rfl : j = s.length := (by omega)
    refine VC.exit ?_
    refine VC.reg tab_ok [] rfl ?_
    refine VX.meek rfl ?_
    refine VX.nil ?_
    refine VC.ret ?_
    exact ⟨trivial, _, rfl, Cv.eq (by rw [List.take_length] at hj2; rw [hj2]; rfl) rfl⟩
/- the example -/
def ex0 : Ed := newEd 1048576 8 6 []
def ex1 : Ed := (ex0.step (keyO 65 0)).1
def ex2 : Ed := (ex1.step (keyO 66 0)).1
def exR : List Rq := (ex1.step (keyO 66 0)).2
def exU : Ed := (ex2.step (keyO 122 4)).1
theorem keyO_ok (code mods : Int) (h1 : -4294967296 ≤ code ∧ code ≤ 4294967296) (h2 : -4294967296 ≤ mods ∧ mods ≤ 4294967296) : nOk (keyO code mods).n := by
  intro v hv
  unfold keyO at hv
  simp only [List.mem_cons, List.mem_singleton, List.not_mem_nil, or_false] at hv
  rcases hv with h | h | h | h | h | h | h | h | h <;> omega
theorem ex_text : ex2.c.bf.text = [65, 66] ∧ ex2.c.cur = 2 ∧ exU.c.bf.text = [65] := by refine ⟨?_, ?_, ?_⟩ <;> kernel_rfl
theorem ex_asks : exR = [⟨36, [1048577, 1048578, 0, 5, 1], [66, 32], []⟩, ⟨30, [1048577, 1048578], [], [4, 5, 4, 1]⟩] := by kernel_rfl
theorem awake55_p : CallP Tryz.prog 7 [] (BL true) := by
  have w0 : ex0.W := newEd_W (by omega) (by simp)
  have hnew := ednew_p 1 1048576 (by omega) 8 6 [] (by omega) (by omega) (by omega) (by simp) rfl
  obtain ⟨w1, c1, d1, -⟩ : ex1.W ∧ 0 ≤ ex1.cnt ∧ ex1.cnt ≤ ex0.cnt + 200 ∧ _ := step_ok w0 (keyO 65 0) (by show (0 : Int) ≤ 6; omega)
  obtain ⟨w2, c2, d2, -⟩ : ex2.W ∧ 0 ≤ ex2.cnt ∧ ex2.cnt ≤ ex1.cnt + 200 ∧ _ := step_ok w1 (keyO 66 0) c1
  have hc0 : ex0.cnt = 6 := rfl
  have h1 := step_p ex0 (keyO 65 0) w0 (by omega) (keyO_ok _ _ (by omega) (by omega)) (by simp [keyO])
  have h2 := step_p ex1 (keyO 66 0) w1 (by omega) (keyO_ok _ _ (by omega) (by omega)) (by simp [keyO])
  have h3 := step_p ex2 (keyO 122 4) w2 (by omega) (keyO_ok _ _ (by omega) (by omega)) (by simp [keyO])
  have k1 := key55_p 65 0
  have k2 := key55_p 66 0
  have k3 := key55_p 122 4
  obtain ⟨t1, t2, t3⟩ := ex_text
  have t4 := ex_asks
  have hp0 := ed_pure ex0
  change StepT ex0 _ (ex1, (ex0.step (keyO 65 0)).2) at h1
  change StepT ex1 _ (ex2, exR) at h2
  change StepT ex2 _ (exU, (ex2.step (keyO 122 4)).2) at h3
  change CallP _ _ _ (.tup [edT ex0, rqT (newR 1048576 8 6), I64 0]) at hnew
  rw [newC_eq] at hnew
  have hnp := newC_pure 1048576 8 6
  rw [t4] at h2
  have hx2 := text_p ex2
  have hxU := text_p exU
  have hcu := curs_p ex2
  rw [t1] at hx2
  rw [t2] at hcu
  rw [t3] at hxU
  generalize (ex0.step (keyO 65 0)).2 = r1 at h1
  generalize (ex2.step (keyO 122 4)).2 = r3 at h3
  generalize newC 1048576 8 6 = nc at *
  have hr1 := encL_pure cRq r1
  have hr3 := encL_pure cRq r3
  have hp1 := ed_pure ex1
  have hp2 := ed_pure ex2
  have hpU := ed_pure exU
  clear w0 w1 w2 c1 c2 d1 d2 hc0 t1 t2 t3 t4
  generalize ex0 = e0 at *
  generalize ex1 = e1 at *
  generalize ex2 = e2 at *
  generalize exU = eU at *
  refine CallP.intro2 au_pu au_pu ?_
  refine CallT.intro tab_ok Tryz.func7 rfl (by kernel_rfl) (Nat.le_of_ble_eq_true rfl) ?_
  refine VC.reg tab_ok [] rfl ?_
  refine VX.meek rfl ?_
  refine VX.nil ?_
  refine VC.reg tab_ok [] rfl ?_
  refine VX.callP0 rfl rfl rfl (hnew) ?_
  iterate 4 refine VX.meek rfl ?_
  refine VX.new rfl rfl ?_
  refine VX.store rfl rfl rfl rfl rfl au_s rfl ?_
  iterate 2 refine VX.meek rfl ?_
  refine VX.nil ?_
  refine VC.view ([(1, .ptr 0 0)]) ([.c (edC e0)]) [2, 3] rfl (by refine ⟨[some 0], rfl, by first | trivial | decide, by first | rfl | (simp only [noO, Bool.and_true, Bool.and_eq_true]; first | assumption | (refine ⟨?_, ?_⟩ <;> assumption)) | (simp only [noO, *, Bool.and_true, Bool.true_and, Bool.and_self]; done), ?_, ?_⟩ <;> (repeat' first | exact trivial | exact CvB_n | exact CvB_d | exact CvB_o rfl | refine CvE_app ?_ ?_ | refine CvE_cons rfl ?_ ?_ | refine CvH_cons ?_ ?_ | refine CvB_c rfl ?_ | fail) <;> first | exact au_v | (first | exact CvL.eq rfl (ed_pure _) | exact Cv.pure (by simp only [T.pure, hnp]) | exact Cv.pure rfl)) ?_
  refine VC.drwT tab_ok [] [_, _, _, _, _, _, _] [true, true, true, true, true, false, false] rfl (by kernel_rfl) (by kernel_rfl) (by kernel_rfl) (by kernel_rfl) ?_
  refine VT.seg true (l1 := [_, _, _, _, _]) rfl ?_
  first | refine VX.meek rfl ?_ | refine VX.loadI rfl rfl au_l ?_ | refine VX.loadP rfl rfl rfl au_l ?_
  refine VX.callP0 rfl rfl rfl (k1) ?_
  refine VX.callP0 rfl rfl rfl (h1) ?_
  iterate 2 refine VX.meek rfl ?_
  refine VX.nil ⟨rfl, ?_⟩
  refine VT.seg false (l1 := [_]) rfl ?_
  refine VX.meek rfl ?_
  refine VX.nil ⟨rfl, ?_⟩
  refine VT.sto rfl rfl rfl rfl ?_
  refine VT.nil (⟨Nat.le_of_ble_eq_true rfl, rfl, trivial⟩) ⟨rfl, ?_⟩
  refine VX.nil ?_
  refine VC.view ([(1, .ptr 0 0)]) ([.c (edC e1)]) [2, 3] rfl (by refine ⟨[some 0], rfl, by first | trivial | decide, by first | rfl | (simp only [noO, Bool.and_true, Bool.and_eq_true]; first | assumption | (refine ⟨?_, ?_⟩ <;> assumption)) | (simp only [noO, *, Bool.and_true, Bool.true_and, Bool.and_self]; done), ?_, ?_⟩ <;> (repeat' first | exact trivial | exact CvB_n | exact CvB_d | exact CvB_o rfl | refine CvE_app ?_ ?_ | refine CvE_cons rfl ?_ ?_ | refine CvH_cons ?_ ?_ | refine CvB_c rfl ?_ | fail) <;> first | exact au_v | (first | exact CvL.eq rfl (ed_pure _) | exact Cv.pure (by simp only [T.pure, hnp]) | exact Cv.pure rfl)) ?_
  refine VC.drwT tab_ok [] [_, _, _, _, _, _, _] [true, true, true, true, true, false, false] rfl (by kernel_rfl) (by kernel_rfl) (by kernel_rfl) (by kernel_rfl) ?_
  refine VT.seg true (l1 := [_, _, _, _, _]) rfl ?_
  first | refine VX.meek rfl ?_ | refine VX.loadI rfl rfl au_l ?_ | refine VX.loadP rfl rfl rfl au_l ?_
  refine VX.callP0 rfl rfl rfl (k2) ?_
  refine VX.callP0 rfl rfl rfl (h2) ?_
  iterate 2 refine VX.meek rfl ?_
  refine VX.nil ⟨rfl, ?_⟩
  refine VT.seg false (l1 := [_]) rfl ?_
  refine VX.meek rfl ?_
  refine VX.nil ⟨rfl, ?_⟩
  refine VT.sto rfl rfl rfl rfl ?_
  refine VT.nil (⟨Nat.le_of_ble_eq_true rfl, rfl, trivial⟩) ⟨rfl, ?_⟩
  refine VX.meek rfl ?_
  refine VX.nil ?_
  refine VC.view ([(1, .ptr 0 0)]) ([.c (edC e2)]) [2, 3, 4] rfl (by refine ⟨[some 0], rfl, by first | trivial | decide, by first | rfl | (simp only [noO, Bool.and_true, Bool.and_eq_true]; first | assumption | (refine ⟨?_, ?_⟩ <;> assumption)) | (simp only [noO, *, Bool.and_true, Bool.true_and, Bool.and_self]; done), ?_, ?_⟩ <;> (repeat' first | exact trivial | exact CvB_n | exact CvB_d | exact CvB_o rfl | refine CvE_app ?_ ?_ | refine CvE_cons rfl ?_ ?_ | refine CvH_cons ?_ ?_ | refine CvB_c rfl ?_ | fail) <;> first | exact au_v | (first | exact CvL.eq rfl (ed_pure _) | exact Cv.pure (by simp only [T.pure, hnp]) | exact Cv.pure rfl)) ?_
  refine VC.drwS tab_ok [] [_, _, _, _, _, _, _, _] (_) rfl (by kernel_rfl) (by kernel_rfl) (by kernel_rfl) (seen_refl _) ?_
  refine VS.seg (l1 := [_, _, _, _, _, _]) rfl ?_
  first | refine VX.meek rfl ?_ | refine VX.loadI rfl rfl au_l ?_ | refine VX.loadP rfl rfl rfl au_l ?_
  refine VX.callP0 rfl rfl rfl (k3) ?_
  refine VX.callP0 rfl rfl rfl (h3) ?_
  iterate 3 refine VX.meek rfl ?_
  refine VX.nil ?_
  refine VS.hid rfl ?_
  refine VS.sto rfl rfl rfl rfl ?_
  refine VS.nil (⟨rfl, Nat.le_of_ble_eq_true rfl, rfl, trivial⟩) ?_
  refine VX.meek rfl ?_
  refine VX.nil ?_
  refine VC.view ([(1, .ptr 0 0), (5, .ptr 1 0)]) ([.c (edC e2), .c (edC eU)]) [2, 3, 4] rfl (by refine ⟨[some 0, some 1], rfl, by first | trivial | decide, by first | rfl | (simp only [noO, Bool.and_true, Bool.and_eq_true]; first | assumption | (refine ⟨?_, ?_⟩ <;> assumption)) | (simp only [noO, *, Bool.and_true, Bool.true_and, Bool.and_self]; done), ?_, ?_⟩ <;> (repeat' first | exact trivial | exact CvB_n | exact CvB_d | exact CvB_o rfl | refine CvE_app ?_ ?_ | refine CvE_cons rfl ?_ ?_ | refine CvH_cons ?_ ?_ | refine CvB_c rfl ?_ | fail) <;> first | exact au_v | (first | exact CvL.eq rfl (ed_pure _) | exact Cv.pure (by simp only [T.pure, hnp]) | exact Cv.pure rfl)) ?_
  refine VC.reg tab_ok [] rfl ?_
  iterate 3 refine VX.meek rfl ?_
  refine' VX.merge (d := 36) [_, _, _, _] rfl ?_ rfl ?_
  rotate_left
  · refine VX.guard rfl rfl (fun hb5_2 => ?_) (fun hb5_2 => ?_)
    · have ghb5_2 := hb5_2
      try simp only [au_std, Bool.not_true, Bool.not_false] at ghb5_2
      refine VX.meek rfl ?_
      refine VX.guardT rfl rfl hb5_2 ?_
      refine VX.meek rfl ?_
      refine VX.guardT rfl rfl hb5_2 ?_
      refine VX.meek rfl ?_
      refine VX.pickA rfl (fun _ => rfl) ?_
      exact VX.nil ⟨rfl, rfl⟩
    · refine VX.guardF rfl rfl hb5_2 ?_
      refine VX.guardF rfl rfl hb5_2 ?_
      exact VX.pickA rfl (fun h => absurd (h.symm.trans hb5_2) (by decide)) (VX.nil ⟨rfl, rfl⟩)
  refine VX.meek rfl ?_
  refine' VX.merge (d := 41) [_, _, _, _] rfl ?_ rfl ?_
  rotate_left
  · refine VX.guard rfl rfl (fun hb5_7 => ?_) (fun hb5_7 => ?_)
    · have ghb5_7 := hb5_7
      try simp only [au_std, Bool.not_true, Bool.not_false] at ghb5_7
      first | refine VX.meek rfl ?_ | refine VX.loadI rfl rfl au_l ?_ | refine VX.loadP rfl rfl rfl au_l ?_
      refine VX.guardT rfl rfl hb5_7 ?_
      refine VX.callP0 rfl rfl rfl (hx2) ?_
      refine VX.guardT rfl rfl hb5_7 ?_
      refine VX.meek rfl ?_
      refine VX.pickA rfl (fun _ => rfl) ?_
      exact VX.nil ⟨rfl, rfl⟩
    · refine VX.guardF rfl rfl hb5_7 ?_
      refine VX.guardF rfl rfl hb5_7 ?_
      exact VX.pickA rfl (fun h => absurd (h.symm.trans hb5_7) (by decide)) (VX.nil ⟨rfl, rfl⟩)
  refine VX.meek rfl ?_
  refine' VX.merge (d := 46) [_, _, _, _] rfl ?_ rfl ?_
  rotate_left
  · refine VX.guard rfl rfl (fun hb5_12 => ?_) (fun hb5_12 => ?_)
    · have ghb5_12 := hb5_12
      try simp only [au_std, Bool.not_true, Bool.not_false] at ghb5_12
      first | refine VX.meek rfl ?_ | refine VX.loadI rfl rfl au_l ?_ | refine VX.loadP rfl rfl rfl au_l ?_
      refine VX.guardT rfl rfl hb5_12 ?_
      refine VX.callP0 rfl rfl rfl (hcu) ?_
      refine VX.guardT rfl rfl hb5_12 ?_
      refine VX.meek rfl ?_
      refine VX.pickA rfl (fun _ => rfl) ?_
      exact VX.nil ⟨rfl, rfl⟩
    · refine VX.guardF rfl rfl hb5_12 ?_
      refine VX.guardF rfl rfl hb5_12 ?_
      exact VX.pickA rfl (fun h => absurd (h.symm.trans hb5_12) (by decide)) (VX.nil ⟨rfl, rfl⟩)
  refine VX.meek rfl ?_
  refine' VX.merge (d := 51) [_, _, _, _] rfl ?_ rfl ?_
  rotate_left
  · refine VX.guard rfl rfl (fun hb5_17 => ?_) (fun hb5_17 => ?_)
    · have ghb5_17 := hb5_17
      try simp only [au_std, Bool.not_true, Bool.not_false] at ghb5_17
      refine VX.meek rfl ?_
      refine VX.guardT rfl rfl hb5_17 ?_
      refine VX.meek rfl ?_
      refine VX.guardT rfl rfl hb5_17 ?_
      refine VX.meek rfl ?_
      refine VX.pickA rfl (fun _ => rfl) ?_
      exact VX.nil ⟨rfl, rfl⟩
    · refine VX.guardF rfl rfl hb5_17 ?_
      refine VX.guardF rfl rfl hb5_17 ?_
      exact VX.pickA rfl (fun h => absurd (h.symm.trans hb5_17) (by decide)) (VX.nil ⟨rfl, rfl⟩)
  refine VX.meek rfl ?_
  refine' VX.merge (d := 58) [_, _, _, _, _, _] rfl ?_ rfl ?_
  rotate_left
  · refine VX.guard rfl rfl (fun hb5_22 => ?_) (fun hb5_22 => ?_)
    · have ghb5_22 := hb5_22
      try simp only [au_std, Bool.not_true, Bool.not_false] at ghb5_22
      refine VX.meek rfl ?_
      refine VX.guardT rfl rfl hb5_22 ?_
      first | refine VX.idxI (m := 0) rfl rfl rfl rfl rfl rfl (by omega) ?_ | refine VX.idxO (m := 0) rfl rfl rfl rfl rfl rfl rfl (by omega) ?_ | refine VX.meek rfl ?_
      refine VX.guardT rfl rfl hb5_22 ?_
      refine VX.meek rfl ?_
      refine VX.guardT rfl rfl hb5_22 ?_
      first | refine VX.meek rfl ?_ | refine VX.loadI rfl rfl au_l ?_ | refine VX.loadP rfl rfl rfl au_l ?_
      refine VX.guardT rfl rfl hb5_22 ?_
      refine VX.meek rfl ?_
      refine VX.pickA rfl (fun _ => rfl) ?_
      exact VX.nil ⟨rfl, rfl⟩
    · refine VX.guardF rfl rfl hb5_22 ?_
      iterate 3 refine VX.guardF rfl rfl hb5_22 ?_
      exact VX.pickA rfl (fun h => absurd (h.symm.trans hb5_22) (by decide)) (VX.nil ⟨rfl, rfl⟩)
  refine VX.meek rfl ?_
  refine' VX.merge (d := 66) [_, _, _, _, _, _, _] rfl ?_ rfl ?_
  rotate_left
  · refine VX.guard rfl rfl (fun hb5_29 => ?_) (fun hb5_29 => ?_)
    · have ghb5_29 := hb5_29
      try simp only [au_std, Bool.not_true, Bool.not_false] at ghb5_29
      refine VX.meek rfl ?_
      refine VX.guardT rfl rfl hb5_29 ?_
      first | refine VX.idxI rfl rfl rfl rfl rfl rfl (by omega) ?_ | refine VX.idxO0 rfl rfl rfl rfl rfl rfl rfl (by omega) ?_ | refine VX.idxO0 rfl rfl rfl rfl rfl rfl au_z (by omega) ?_ | refine VX.idxO rfl rfl rfl rfl rfl rfl rfl (by omega) ?_ | refine VX.idxI rfl rfl rfl rfl rfl au_z (by omega) ?_ | refine VX.idxO rfl rfl rfl rfl rfl rfl au_z (by omega) ?_ | refine VX.meek rfl ?_
      refine VX.guardT rfl rfl hb5_29 ?_
      refine VX.meek rfl ?_
      refine VX.guardT rfl rfl hb5_29 ?_
      first | refine VX.meek rfl ?_ | refine VX.loadI rfl rfl au_l ?_ | refine VX.loadP rfl rfl rfl au_l ?_
      refine VX.guardT rfl rfl hb5_29 ?_
      refine VX.meek rfl ?_
      refine VX.guardT rfl rfl hb5_29 ?_
      refine VX.meek rfl ?_
      refine VX.pickA rfl (fun _ => rfl) ?_
      exact VX.nil ⟨rfl, rfl⟩
    · refine VX.guardF rfl rfl hb5_29 ?_
      iterate 4 refine VX.guardF rfl rfl hb5_29 ?_
      exact VX.pickA rfl (fun h => absurd (h.symm.trans hb5_29) (by decide)) (VX.nil ⟨rfl, rfl⟩)
  refine VX.meek rfl ?_
  refine' VX.merge (d := 75) [_, _, _, _, _, _, _, _] rfl ?_ rfl ?_
  rotate_left
  · refine VX.guard rfl rfl (fun hb5_37 => ?_) (fun hb5_37 => ?_)
    · have ghb5_37 := hb5_37
      try simp only [au_std, Bool.not_true, Bool.not_false] at ghb5_37
      refine VX.meek rfl ?_
      refine VX.guardT rfl rfl hb5_37 ?_
      first | refine VX.idxI rfl rfl rfl rfl rfl rfl (by omega) ?_ | refine VX.idxO0 rfl rfl rfl rfl rfl rfl rfl (by omega) ?_ | refine VX.idxO0 rfl rfl rfl rfl rfl rfl au_z (by omega) ?_ | refine VX.idxO rfl rfl rfl rfl rfl rfl rfl (by omega) ?_ | refine VX.idxI rfl rfl rfl rfl rfl au_z (by omega) ?_ | refine VX.idxO rfl rfl rfl rfl rfl rfl au_z (by omega) ?_ | refine VX.meek rfl ?_
      refine VX.guardT rfl rfl hb5_37 ?_
      refine VX.meek rfl ?_
      refine VX.guardT rfl rfl hb5_37 ?_
      first | refine VX.meek rfl ?_ | refine VX.loadI rfl rfl au_l ?_ | refine VX.loadP rfl rfl rfl au_l ?_
      refine VX.guardT rfl rfl hb5_37 ?_
      first | refine VX.idxI (m := 0) rfl rfl rfl rfl rfl rfl (by omega) ?_ | refine VX.idxO (m := 0) rfl rfl rfl rfl rfl rfl rfl (by omega) ?_ | refine VX.meek rfl ?_
      refine VX.guardT rfl rfl hb5_37 ?_
      first | refine VX.meek rfl ?_ | refine VX.loadI rfl rfl au_l ?_ | refine VX.loadP rfl rfl rfl au_l ?_
      refine VX.guardT rfl rfl hb5_37 ?_
      refine VX.meek rfl ?_
      refine VX.pickA rfl (fun _ => rfl) ?_
      exact VX.nil ⟨rfl, rfl⟩
    · refine VX.guardF rfl rfl hb5_37 ?_
      iterate 5 refine VX.guardF rfl rfl hb5_37 ?_
      exact VX.pickA rfl (fun h => absurd (h.symm.trans hb5_37) (by decide)) (VX.nil ⟨rfl, rfl⟩)
  refine VX.meek rfl ?_
  refine' VX.merge (d := 80) [_, _, _, _] rfl ?_ rfl ?_
  rotate_left
  · refine VX.guard rfl rfl (fun hb5_46 => ?_) (fun hb5_46 => ?_)
    · have ghb5_46 := hb5_46
      try simp only [au_std, Bool.not_true, Bool.not_false] at ghb5_46
      first | refine VX.meek rfl ?_ | refine VX.loadI rfl rfl au_l ?_ | refine VX.loadP rfl rfl rfl au_l ?_
      refine VX.guardT rfl rfl hb5_46 ?_
      refine VX.callP0 rfl rfl rfl (hxU) ?_
      refine VX.guardT rfl rfl hb5_46 ?_
      refine VX.meek rfl ?_
      refine VX.pickA rfl (fun _ => rfl) ?_
      exact VX.nil ⟨rfl, rfl⟩
    · refine VX.guardF rfl rfl hb5_46 ?_
      refine VX.guardF rfl rfl hb5_46 ?_
      exact VX.pickA rfl (fun h => absurd (h.symm.trans hb5_46) (by decide)) (VX.nil ⟨rfl, rfl⟩)
  refine VX.meek rfl ?_
  refine VX.nil ?_
  refine VC.ret ?_
  exact ⟨trivial, _, rfl, Cv.eq (by first | rfl | (simp [*]; done)) rfl⟩
end
section
open Go.RowKit
set_option maxRecDepth 100000
set_option maxHeartbeats 2000000
structure KE (e : Ed) (i : Nat) (c : Ec) : Prop where
  w : e.W
  m : e.made = true
  n : e.win = 1048577
  k : 0 ≤ e.cnt ∧ e.cnt ≤ 6 + 200 * i
  c : e.c = c
theorem step_key (e : Ed) (hm : e.made = true) (hn : e.win = 1048577) (code mods : Int) : (e.step (keyO code mods)).1.c = e.c.key code (mods % 256) ∧ (e.step (keyO code mods)).1.made = true ∧ (e.step (keyO code mods)).1.win = 1048577 := by
  have h1 : ¬ (e.made = false ∨ wholeB (keyO code mods) = false) := by
    rintro (h | h)
    · rw [hm] at h; cases h
    · cases h
  have h2 : ¬ (keyO code mods).kind = 1 := by show ¬ (2 : Int) = 1; omega
  have h3 : ¬ (keyO code mods).n[0]! ≠ e.win := by rw [hn]; show ¬ (1048577 : Int) ≠ 1048577; simp
  unfold Ed.step
  rw [if_neg h1, if_neg h2, if_neg h3]
  exact ⟨rfl, hm, hn⟩
theorem KE.step {e : Ed} {i : Nat} {c : Ec} (h : KE e i c) (code mods : Int) {c2 : Ec} (hc : c.key code (mods % 256) = c2) : KE (e.step (keyO code mods)).1 (i + 1) c2 := by
  obtain ⟨h1, h2, h3⟩ := step_key e h.m h.n code mods
  obtain ⟨g1, g2, g3, -⟩ := step_ok h.w (keyO code mods) h.k.1
  have := h.k
  exact ⟨g1, h2, h3, ⟨g2, by omega⟩, by rw [h1, h.c, hc]⟩
theorem KE.stepT {e : Ed} {i : Nat} {c : Ec} (h : KE e i c) (hi : i ≤ 100000) (code mods : Int) (h1 : -4294967296 ≤ code ∧ code ≤ 4294967296) (h2 : -4294967296 ≤ mods ∧ mods ≤ 4294967296) :
    CallP Tryz.prog 10 [edT e, otT (keyO code mods)] (.tup [edT (e.step (keyO code mods)).1, rqT (e.step (keyO code mods)).2]) :=
  step_p e (keyO code mods) h.w ⟨h.k.1, by have := h.k; omega⟩ (keyO_ok code mods h1 h2) (by simp [keyO])
theorem key_ty (c : Ec) (b : UInt8) (h : okB b = true) : c.key (if b.toNat = 10 then 13 else (b.toNat : Int)) 0 = c.put [b] := by
  by_cases h1 : b.toNat = 10
  · rw [if_pos h1]
    obtain rfl : b = 10 := UInt8.toNat.inj h1
    rfl
  · rw [if_neg h1]
    have h2 : 32 ≤ b.toNat ∧ b.toNat ≤ 126 := by unfold okB at h; simp [h1] at h; omega
    have hl : letN (b.toNat : Int) 0 = some b := by
      unfold letN
      rw [if_neg (by omega), if_neg (by omega)]
      congr 1
      apply UInt8.toNat.inj
      rw [UInt8.toNat_ofNat']
      omega
    unfold Ec.key
    rw [if_neg (by omega), if_neg (by omega), hl]
theorem getB {s : List UInt8} {k : Nat} (h : k < s.length) : s[k]? = some s[k]! := getE h
end
section
open Go.RowKit
theorem wtE_str {ts : List T} (h : Sh.str.wt ts) : ∃ l : List UInt8, ts = [strT l] ∧ l.length ≤ maxLen := by
  obtain ⟨s, rfl, hs⟩ := h
  refine ⟨s.data.toList, ?_, by rw [← Lib.size_eq]; exact hs⟩
  show [T.v (.string s)] = [T.v (.string ⟨s.data.toList.toArray⟩)]
  rw [byt_eta]
end
section
open Go.RowKit
set_option maxRecDepth 100000
set_option maxHeartbeats 2000000
def cOt : Cd Ot := ⟨6, fun o => otC o, fun _ => rfl, fun o => ot_pure o, fun _ => rfl, by decide⟩
instance : Inhabited Ot := ⟨⟨0, 0, 0, [], [], []⟩⟩
abbrev otsT (l : List Ot) : T := .islc (encL cOt l) l.length none
def okV (v : Int) : Bool := decide (-4294967296 ≤ v) && decide (v ≤ 4294967296)
def okO (o : Ot) : Bool := decide (o.n.length ≤ 30) && decide (o.l.length ≤ 200) && decide (o.b.length ≤ 200) && o.n.all okV
def shortB (l : List Ot) : Bool := (l.take 60).all okO && decide (l.length ≤ 60)
theorem shortB_len {l : List Ot} (h : shortB l = true) : l.length ≤ 60 := by unfold shortB at h; simp at h; exact h.2
theorem shortB_at {l : List Ot} (h : shortB l = true) {i : Nat} (hi : i < l.length) : nOk l[i]!.n ∧ l[i]!.l.length ≤ 200 := by
  have hl := shortB_len h
  unfold shortB at h
  rw [List.take_of_length_le hl, Bool.and_eq_true] at h
  have h1 := List.all_eq_true.1 h.1 l[i]! (List.mem_iff_getElem?.2 ⟨i, getE hi⟩)
  unfold okO at h1
  simp only [Bool.and_eq_true, decide_eq_true_eq] at h1
  refine ⟨fun v hv => ?_, h1.1.1.2⟩
  have h2 := List.all_eq_true.1 h1.2 v hv
  unfold okV at h2
  simp only [Bool.and_eq_true, decide_eq_true_eq] at h2
  exact h2
theorem short_no {l : List Ot} {i : Nat} (hi : i < l.length) (h6 : i < 60) (h : okO l[i]! = false) : shortB l = false := by
  cases hs : shortB l with
  | false => rfl
  | true =>
    unfold shortB at hs
    rw [Bool.and_eq_true] at hs
    have hm : l[i]! ∈ l.take 60 := List.mem_iff_getElem?.2 ⟨i, by rw [List.getElem?_take, if_pos h6]; exact getE hi⟩
    rw [List.all_eq_true.1 hs.1 _ hm] at h
    cases h
theorem allV_no {n : List Int} {k : Nat} (hk : k < n.length) (h : okV n[k]! = false) : n.all okV = false := by
  cases hs : n.all okV with
  | false => rfl
  | true => rw [List.all_eq_true.1 hs _ (List.mem_iff_getElem?.2 ⟨k, getE hk⟩)] at h; cases h
theorem short_p (l : List Ot) : CallP Tryz.prog 15 [otsT l] (BL (shortB l)) := by
  have hp := encL_pure cOt l
  have hT : (l.take 0).all okO = true := by simp
  refine CallP.intro2 au_pu au_pu ?_
  refine CallT.intro tab_ok Tryz.func15 rfl (by kernel_rfl) (Nat.le_of_ble_eq_true rfl) ?_
  refine VC.reg tab_ok [] rfl ?_
  refine VX.meek rfl ?_
  refine VX.nil ?_
  refine VC.seq ?_
  refine VC.reg tab_ok [] rfl ?_
  refine VX.meek rfl ?_
  refine VX.nil ?_
  refine VC.block ?_
  refine VC.loopS (σ := Nat) (fun i => l.length - i) (fun i => i ≤ l.length ∧ i ≤ 60 ∧ (l.take i).all okO = true) (fun i => [(3, I64 (i : Nat))]) (fun i => []) [0] rfl (0) ?_ ?_ ?_
  · refine ⟨[], rfl, by first | trivial | decide, by first | rfl | (simp only [noO, Bool.and_true, Bool.and_eq_true]; first | assumption | (refine ⟨?_, ?_⟩ <;> assumption)) | (simp only [noO, *, Bool.and_true, Bool.true_and, Bool.and_self]; done), ?_, ?_⟩ <;> (repeat' first | exact trivial | exact CvB_n | exact CvB_d | exact CvB_o rfl | refine CvE_app ?_ ?_ | refine CvE_cons rfl ?_ ?_ | refine CvH_cons ?_ ?_ | refine CvB_c rfl ?_ | fail) <;> first | exact au_v | (first | exact CvL.pure rfl | exact Cv.pure (by simp only [T.pure, hp]))
  · exact ⟨Nat.zero_le _, Nat.zero_le _, hT⟩
  rintro i hi
  refine VC.seq ?_
  refine VC.reg tab_ok [] rfl ?_
  iterate 5 refine VX.meek rfl ?_
  refine' VX.merge (d := 12) [_, _, _] rfl ?_ rfl ?_
  rotate_left
  · refine VX.guard rfl rfl (fun hb2_4 => ?_) (fun hb2_4 => ?_)
    · have ghb2_4 := hb2_4
      try simp only [au_std, Bool.not_true, Bool.not_false] at ghb2_4
      refine VX.meek rfl ?_
      refine VX.guardT rfl rfl hb2_4 ?_
      refine VX.meek rfl ?_
      refine VX.pickA rfl (fun _ => rfl) ?_
      exact VX.nil ⟨rfl, rfl⟩
    · refine VX.guardF rfl rfl hb2_4 ?_
      exact VX.pickA rfl (fun h => absurd (h.symm.trans hb2_4) (by decide)) (VX.nil ⟨rfl, rfl⟩)
  refine VX.nil ?_
  refine VC.cond rfl (fun hc0 => ?_) (fun hc0 => ?_)
  · (try simp only [au_std] at hc0); obtain ⟨hi1, hi2, hi3⟩ := hi; have hil : i < l.length := (by omega); have hi60 : i < 60 := (by omega); have hpo := ot_pure l[i]!; have hat := getE hil; have hpn := encL_pure cI l[i]!.n; have hpl := encL_pure cI l[i]!.l
    have hnx : (l.take (i + 1)).all okO = okO l[i]! := (by rw [List.take_add_one, List.all_append, hi3, hat]; simp)
    refine VC.skip ?_
    refine VC.seq ?_
    refine VC.block ?_
    refine VC.seq ?_
    refine VC.reg tab_ok [] rfl ?_
    iterate 2 refine VX.meek rfl ?_
    refine VX.idxI (m := i) rfl rfl rfl rfl rfl rfl hil ?_
    refine VX.meek rfl ?_
    refine VX.loadI rfl rfl (encL_part cOt (m := i) (off := 3) (a := l[i]!) hat (by decide) (by decide) rfl) ?_
    iterate 3 refine VX.meek rfl ?_
    refine' VX.merge (d := 30) [_, _, _, _, _, _, _, _] rfl ?_ rfl ?_
    rotate_left
    · refine VX.guard rfl rfl (fun hb4_7 => ?_) (fun hb4_7 => ?_)
      · have ghb4_7 := hb4_7
        try simp only [au_std, Bool.not_true, Bool.not_false] at ghb4_7
        refine VX.meek rfl ?_
        refine VX.guardT rfl rfl hb4_7 ?_
        refine VX.meek rfl ?_
        refine VX.guardT rfl rfl hb4_7 ?_
        refine VX.idxI (m := i) rfl rfl rfl rfl rfl rfl hil ?_
        refine VX.guardT rfl rfl hb4_7 ?_
        refine VX.meek rfl ?_
        refine VX.guardT rfl rfl hb4_7 ?_
        refine VX.loadI rfl rfl (encL_part cOt (m := i) (off := 5) (a := l[i]!) hat (by decide) (by decide) rfl) ?_
        refine VX.guardT rfl rfl hb4_7 ?_
        refine VX.meek rfl ?_
        refine VX.guardT rfl rfl hb4_7 ?_
        refine VX.meek rfl ?_
        refine VX.pickO rfl (fun _ => rfl) ?_
        exact VX.nil ⟨rfl, rfl⟩
      · refine VX.guardF rfl rfl hb4_7 ?_
        iterate 5 refine VX.guardF rfl rfl hb4_7 ?_
        exact VX.pickO rfl (fun h => absurd (h.symm.trans hb4_7) (by decide)) (VX.nil ⟨rfl, rfl⟩)
    refine VX.meek rfl ?_
    refine' VX.merge (d := 39) [_, _, _, _, _, _, _, _] rfl ?_ rfl ?_
    rotate_left
    · refine VX.guard rfl rfl (fun hb4_16 => ?_) (fun hb4_16 => ?_)
      · have ghb4_16 := hb4_16
        try simp only [au_std, Bool.not_true, Bool.not_false] at ghb4_16
        refine VX.meek rfl ?_
        refine VX.guardT rfl rfl hb4_16 ?_
        refine VX.meek rfl ?_
        refine VX.guardT rfl rfl hb4_16 ?_
        refine VX.idxI (m := i) rfl rfl rfl rfl rfl rfl hil ?_
        refine VX.guardT rfl rfl hb4_16 ?_
        refine VX.meek rfl ?_
        refine VX.guardT rfl rfl hb4_16 ?_
        refine VX.loadI rfl rfl (encL_part cOt (m := i) (off := 4) (a := l[i]!) hat (by decide) (by decide) rfl) ?_
        refine VX.guardT rfl rfl hb4_16 ?_
        refine VX.meek (t := I64 (l[i]!.b.length : Nat)) rfl ?_
        refine VX.guardT rfl rfl hb4_16 ?_
        refine VX.meek rfl ?_
        refine VX.pickO rfl (fun _ => rfl) ?_
        exact VX.nil ⟨rfl, rfl⟩
      · refine VX.guardF rfl rfl hb4_16 ?_
        iterate 5 refine VX.guardF rfl rfl hb4_16 ?_
        exact VX.pickO rfl (fun h => absurd (h.symm.trans hb4_16) (by decide)) (VX.nil ⟨rfl, rfl⟩)
    refine VX.nil ?_
    refine VC.cond rfl (fun hc1 => ?_) (fun hc1 => ?_)
    · (try simp only [au_std] at hc1); have e1 : shortB l = false := short_no hil hi60 (by unfold okO; rw [Bool.and_eq_false_iff]; left; rw [Bool.and_eq_false_iff, Bool.and_eq_false_iff]; simp only [decide_eq_false_iff_not]; omega)
      refine VC.reg tab_ok [] rfl ?_
      refine VX.meek rfl ?_
      refine VX.nil ?_
      refine VC.ret ?_
      exact ⟨trivial, _, rfl, Cv.eq (by rw [e1]; rfl) rfl⟩
    · (try simp only [au_std] at hc1); skip
      refine VC.skip ?_
      refine VC.reg tab_ok [] rfl ?_
      refine VX.meek rfl ?_
      refine VX.nil ?_
      refine VC.block ?_
      refine VC.loopS (σ := Nat) (fun k => l[i]!.n.length - k) (fun k => k ≤ l[i]!.n.length ∧ (l[i]!.n.take k).all okV = true) (fun k => [(4, I64 (k : Nat))]) (fun k => []) [0, 3] rfl (0) ?_ ?_ ?_
      · refine ⟨[], rfl, by first | trivial | decide, by first | rfl | (simp only [noO, Bool.and_true, Bool.and_eq_true]; first | assumption | (refine ⟨?_, ?_⟩ <;> assumption)) | (simp only [noO, *, Bool.and_true, Bool.true_and, Bool.and_self]; done), ?_, ?_⟩ <;> (repeat' first | exact trivial | exact CvB_n | exact CvB_d | exact CvB_o rfl | refine CvE_app ?_ ?_ | refine CvE_cons rfl ?_ ?_ | refine CvH_cons ?_ ?_ | refine CvB_c rfl ?_ | fail) <;> first | exact au_v | (first | exact CvL.pure rfl | exact Cv.pure (by simp only [T.pure, hp]))
      · exact ⟨Nat.zero_le _, by simp⟩
      rintro k hk
      refine VC.seq ?_
      refine VC.reg tab_ok [] rfl ?_
      iterate 3 refine VX.meek rfl ?_
      refine VX.idxI (m := i) rfl rfl rfl rfl rfl rfl hil ?_
      refine VX.meek rfl ?_
      refine VX.loadI rfl rfl (encL_part cOt (m := i) (off := 3) (a := l[i]!) hat (by decide) (by decide) rfl) ?_
      iterate 2 refine VX.meek rfl ?_
      refine VX.nil ?_
      refine VC.cond rfl (fun hc2 => ?_) (fun hc2 => ?_)
      · (try simp only [au_std] at hc2); obtain ⟨hk1, hk2⟩ := hk; have hkl : k < l[i]!.n.length := (by omega); have hkn : (l[i]!.n.take (k + 1)).all okV = okV l[i]!.n[k]! := (by rw [List.take_add_one, List.all_append, hk2, getE hkl]; simp)
        refine VC.skip ?_
        refine VC.seq ?_
        refine VC.block ?_
        refine VC.reg tab_ok [] rfl ?_
        iterate 2 refine VX.meek rfl ?_
        refine VX.idxI (m := i) rfl rfl rfl rfl rfl rfl hil ?_
        refine VX.meek rfl ?_
        refine VX.loadI rfl rfl (encL_part cOt (m := i) (off := 3) (a := l[i]!) hat (by decide) (by decide) rfl) ?_
        refine VX.meek rfl ?_
        refine VX.idxI (m := k) rfl rfl rfl rfl rfl rfl hkl ?_
        refine VX.loadI rfl rfl (encL_part0 cI (m := k) (getE hkl) (by decide) rfl) ?_
        iterate 2 refine VX.meek rfl ?_
        refine' VX.merge (d := 69) [_, _, _, _, _, _, _, _, _, _] rfl ?_ rfl ?_
        rotate_left
        · refine VX.guard rfl rfl (fun hb9_9 => ?_) (fun hb9_9 => ?_)
          · have ghb9_9 := hb9_9
            try simp only [au_std, Bool.not_true, Bool.not_false] at ghb9_9
            refine VX.meek rfl ?_
            refine VX.guardT rfl rfl hb9_9 ?_
            refine VX.meek rfl ?_
            refine VX.guardT rfl rfl hb9_9 ?_
            refine VX.idxI (m := i) rfl rfl rfl rfl rfl rfl hil ?_
            refine VX.guardT rfl rfl hb9_9 ?_
            refine VX.meek rfl ?_
            refine VX.guardT rfl rfl hb9_9 ?_
            refine VX.loadI rfl rfl (encL_part cOt (m := i) (off := 3) (a := l[i]!) hat (by decide) (by decide) rfl) ?_
            refine VX.guardT rfl rfl hb9_9 ?_
            refine VX.meek rfl ?_
            refine VX.guardT rfl rfl hb9_9 ?_
            refine VX.idxI (m := k) rfl rfl rfl rfl rfl rfl hkl ?_
            refine VX.guardT rfl rfl hb9_9 ?_
            refine VX.loadI rfl rfl (encL_part0 cI (m := k) (getE hkl) (by decide) rfl) ?_
            refine VX.guardT rfl rfl hb9_9 ?_
            refine VX.meek rfl ?_
            refine VX.pickO rfl (fun _ => rfl) ?_
            exact VX.nil ⟨rfl, rfl⟩
          · refine VX.guardF rfl rfl hb9_9 ?_
            iterate 7 refine VX.guardF rfl rfl hb9_9 ?_
            exact VX.pickO rfl (fun h => absurd (h.symm.trans hb9_9) (by decide)) (VX.nil ⟨rfl, rfl⟩)
        refine VX.nil ?_
        refine VC.cond rfl (fun hc3 => ?_) (fun hc3 => ?_)
        · (try simp only [au_std] at hc3); have e1 : shortB l = false := short_no hil hi60 (by unfold okO; rw [Bool.and_eq_false_iff]; right; exact allV_no hkl (by generalize l[i]!.n[k]! = v at hc3 ⊢; unfold okV; simp; omega))
          refine VC.reg tab_ok [] rfl ?_
          refine VX.meek rfl ?_
          refine VX.nil ?_
          refine VC.ret ?_
          exact ⟨trivial, _, rfl, Cv.eq (by rw [e1]; rfl) rfl⟩
        · (try simp only [au_std] at hc3); have e2 : (l[i]!.n.take (k + 1)).all okV = true := (by rw [hkn]; generalize l[i]!.n[k]! = v at hc3 ⊢; unfold okV; simp; omega)
          refine VC.skip ?_
          refine VC.regN tab_ok [] rfl ?_
          refine VX.meek rfl ?_
          first | refine VX.add rfl rfl (by omega) ?_ | refine VX.meek rfl ?_
          refine VX.meek rfl ?_
          refine VX.nil ?_
          refine ⟨k + 1, by (try dsimp only); omega, ?_, (by refine ⟨[], rfl, by first | trivial | decide, by first | rfl | (simp only [noO, Bool.and_true, Bool.and_eq_true]; first | assumption | (refine ⟨?_, ?_⟩ <;> assumption)) | (simp only [noO, *, Bool.and_true, Bool.true_and, Bool.and_self]; done), ?_, ?_⟩ <;> (repeat' first | exact trivial | exact CvB_n | exact CvB_d | exact CvB_o rfl | refine CvE_app ?_ ?_ | refine CvE_cons rfl ?_ ?_ | refine CvH_cons ?_ ?_ | refine CvB_c rfl ?_ | fail) <;> first | exact au_v | (first | exact CvL.pure rfl | exact Cv.pure rfl | exact Cv.pure (by simp only [T.pure, hp])))⟩
          exact ⟨by omega, e2⟩
      · (try simp only [au_std] at hc2); obtain ⟨hk1, hk2⟩ := hk; obtain rfl : k = l[i]!.n.length := (by omega); rw [List.take_length] at hk2; have e3 : (l.take (i + 1)).all okO = true := (by rw [hnx]; unfold okO; rw [hk2, decide_eq_true (by omega), decide_eq_true (by omega), decide_eq_true (by omega)]; rfl)
        refine VC.exit ?_
        refine VC.regN tab_ok [] rfl ?_
        refine VX.meek rfl ?_
        first | refine VX.add rfl rfl (by omega) ?_ | refine VX.meek rfl ?_
        refine VX.meek rfl ?_
        refine VX.nil ?_
        refine ⟨i + 1, by (try dsimp only); omega, ?_, (by refine ⟨[], rfl, by first | trivial | decide, by first | rfl | (simp only [noO, Bool.and_true, Bool.and_eq_true]; first | assumption | (refine ⟨?_, ?_⟩ <;> assumption)) | (simp only [noO, *, Bool.and_true, Bool.true_and, Bool.and_self]; done), ?_, ?_⟩ <;> (repeat' first | exact trivial | exact CvB_n | exact CvB_d | exact CvB_o rfl | refine CvE_app ?_ ?_ | refine CvE_cons rfl ?_ ?_ | refine CvH_cons ?_ ?_ | refine CvB_c rfl ?_ | fail) <;> first | exact au_v | (first | exact CvL.pure rfl | exact Cv.pure rfl | exact Cv.pure (by simp only [T.pure, hp])))⟩
        exact ⟨by omega, by omega, e3⟩
  · (try simp only [au_std] at hc0); obtain ⟨hi1, hi2, hi3⟩ := hi; have e4 : shortB l = decide (l.length ≤ 60) := (by unfold shortB; by_cases h6 : l.length ≤ 60; (rw [List.take_of_length_le h6]; have hil : i = l.length := (by omega); rw [hil, List.take_length] at hi3; rw [hi3, Bool.true_and]); (have hil : i = 60 := (by omega); rw [hil] at hi3; rw [hi3, Bool.true_and]))
    refine VC.exit ?_
    refine VC.reg tab_ok [] rfl ?_
    iterate 4 refine VX.meek rfl ?_
    refine VX.nil ?_
    refine VC.ret ?_
    exact ⟨trivial, _, rfl, Cv.eq (by rw [e4]; show T.v (.bool (decide ((l.length : Int) ≤ 60))) = _; congr 3; exact propext (by omega)) rfl⟩
end
section
open Go.RowKit
set_option maxRecDepth 100000
set_option maxHeartbeats 2000000
theorem ins_one {e : Ec} (ok : e.Ok) (b : UInt8) (h : e.bf.text.length < 4096) : (e.ins [b]).bf.text = e.bf.text.take e.cur ++ [b] ++ e.bf.text.drop e.cur ∧ (e.ins [b]).cur = e.cur + 1 := by
  unfold Ec.ins
  rw [if_neg (by rw [List.length_singleton]; omega)]
  exact ⟨rfl, rfl⟩
theorem put_one {e : Ec} (ok : e.Ok) (b : UInt8) (h : (e.bf.text.length : Int) - e.hi + e.lo < 4096) : (e.put [b]).bf.text = e.bf.text.take e.lo ++ [b] ++ e.bf.text.drop e.hi ∧ (e.put [b]).cur = e.lo + 1 := by
  have hc := ok.cur
  have hlo : e.lo ≤ e.hi ∧ e.hi ≤ e.bf.text.length := by unfold Ec.lo Ec.hi; omega
  unfold Ec.put
  by_cases he : e.lo = e.hi
  · have e1 : e.cut = e := by unfold Ec.cut; rw [if_pos he]
    have e2 : e.cur = e.lo := by unfold Ec.lo Ec.hi at *; omega
    rw [e1, ← he, ← e2]
    exact ins_one ok b (by omega)
  · have e1 : e.cut = { e with bf := e.bf.chg ⟨e.lo, (e.bf.text.take e.hi).drop e.lo, []⟩, cur := e.lo, anc := e.lo } := by unfold Ec.cut; rw [if_neg he]
    have ok2 := ok.cut.1
    rw [e1] at ok2 ⊢
    have ht : (e.bf.chg ⟨e.lo, (e.bf.text.take e.hi).drop e.lo, []⟩).text = e.bf.text.take e.lo ++ e.bf.text.drop e.hi := by
      show e.bf.text.take e.lo ++ [] ++ e.bf.text.drop (e.lo + ((e.bf.text.take e.hi).drop e.lo).length) = _
      rw [List.append_nil, List.length_drop, List.length_take]
      congr 2
      omega
    have hl : (e.bf.text.take e.lo).length = e.lo := by rw [List.length_take]; omega
    obtain ⟨h1, h2⟩ := ins_one ok2 b (by show (e.bf.chg ⟨e.lo, (e.bf.text.take e.hi).drop e.lo, []⟩).text.length < 4096; rw [ht, List.length_append, hl, List.length_drop]; omega)
    refine ⟨h1.trans ?_, h2⟩
    show (e.bf.chg ⟨e.lo, (e.bf.text.take e.hi).drop e.lo, []⟩).text.take e.lo ++ [b] ++ (e.bf.chg ⟨e.lo, (e.bf.text.take e.hi).drop e.lo, []⟩).text.drop e.lo = _
    rw [ht, List.take_append_of_le_length (by omega), List.take_of_length_le (by omega), List.drop_append_of_le_length (by omega), List.drop_of_length_le (i := e.lo) (l := e.bf.text.take e.lo) (by omega), List.nil_append]
theorem evs_keep {e : Ed} {code : Int} {n : List Int} {p : Ed × List Rq} (h : e.evs code n = some p) : p.1.made = e.made ∧ p.1.win = e.win := by
  unfold Ed.evs at h
  split at h
  · injection h with h; subst h; exact ⟨rfl, rfl⟩
  split at h
  · injection h with h; subst h; exact ⟨rfl, rfl⟩
  split at h
  · injection h with h; subst h; exact ⟨rfl, rfl⟩
  split at h
  · injection h with h; subst h; unfold Ed.movedN; split <;> exact ⟨rfl, rfl⟩
  split at h
  · injection h with h; subst h; exact ⟨rfl, rfl⟩
  split at h
  · injection h with h; subst h; unfold Ed.notiN; split <;> exact ⟨rfl, rfl⟩
  split at h
  · injection h with h; subst h; show (e.clearN n).made = _ ∧ (e.clearN n).win = _; unfold Ed.clearN; split <;> exact ⟨rfl, rfl⟩
  · cases h
theorem step_keep (e : Ed) (o : Ot) : (e.step o).1.made = e.made ∧ (e.step o).1.win = e.win := by
  unfold Ed.step
  split
  · exact ⟨rfl, rfl⟩
  split
  · split <;> exact ⟨rfl, rfl⟩
  split
  · exact ⟨rfl, rfl⟩
  cases h : e.evs o.code o.n with
  | none => exact ⟨rfl, rfl⟩
  | some p => exact evs_keep (p := p) h
structure KA (e : Ed) (i : Nat) : Prop where
  w : e.W
  m : e.made = true
  n : e.win = 1048577
  k : 0 ≤ e.cnt ∧ e.cnt ≤ 6 + 200 * i
theorem KA.step {e : Ed} {i : Nat} (h : KA e i) (o : Ot) : KA (e.step o).1 (i + 1) := by
  obtain ⟨g1, g2, g3, -⟩ := step_ok h.w o h.k.1
  obtain ⟨k1, k2⟩ := step_keep e o
  have := h.k
  exact ⟨g1, k1.trans h.m, k2.trans h.n, ⟨g2, by omega⟩⟩
theorem KA.key {e : Ed} {i : Nat} (h : KA e i) (b : UInt8) (hb : 32 ≤ b.toNat ∧ b.toNat ≤ 126) : (e.step (keyO b.toNat 0)).1.c = e.c.put [b] := by
  have h1 := (step_key e h.m h.n b.toNat 0).1
  rw [h1]
  have := key_ty e.c b (by unfold okB; simp; omega)
  rw [if_neg (by omega)] at this
  exact this
theorem step_c (e : Ed) (o : Ot) (hW : e.W) (hc : 0 ≤ e.cnt ∧ e.cnt ≤ 900000000) (hn : nOk o.n) (hl : o.l.length ≤ 100000) :
    CallP Tryz.prog 10 [edT e, otT o] (.tup [edT (e.step o).1, rqT (e.step o).2]) := step_p e o hW hc hn hl
theorem editorMarks_all (s : List UInt8) (l : List Ot) (c : Int) (hc : 0 ≤ c ∧ c < 256) : CallP Tryz.prog 6 [strT s, otsT l, U8 c] (BL true) := by
  have hpl := encL_pure cOt l
  obtain ⟨b, hb⟩ : ∃ b : UInt8, (b.toNat : Int) = 32 + c % 95 := ⟨UInt8.ofNat (32 + c % 95).toNat, by rw [UInt8.toNat_ofNat']; omega⟩
  have hbr : 32 ≤ b.toNat ∧ b.toNat ≤ 126 := by omega
  have hsh := short_p l
  have hnew := fun (h : s.length ≤ 300) (hr : rightB s = true) => ednew_p 1 1048576 (by omega) 40 18 s (by omega) (by omega) (by omega) (by omega) hr
  have hnp := newC_pure 1048576 40 18
  have k0 : s.length ≤ 300 → KA (newEd 1048576 40 18 s) 0 := fun h => ⟨newEd_W (by omega) (by omega), rfl, rfl, by show (0 : Int) ≤ 6 ∧ (6 : Int) ≤ 6 + 200 * ((0 : Nat) : Int); omega⟩
  have hnq : rqT (newR 1048576 40 18) = .islc (newC 1048576 40 18) 6 none := newC_eq _ _ _
  have hnew2 : ∀ (h : s.length ≤ 300) (hr : rightB s = true), CallP Tryz.prog 9 [I64 1, I64 40, I64 18, strT s] (.tup [edT (newEd 1048576 40 18 s), .islc (newC 1048576 40 18) 6 none, I64 0]) := fun h hr => by
    have := hnew h hr
    rw [newC_eq] at this
    exact this
  clear hnew hnq
  generalize newC 1048576 40 18 = nc at *
  generalize newEd 1048576 40 18 s = e0 at *
  have hp0 := ed_pure e0
  refine CallP.intro2 au_pu au_pu ?_
  refine CallT.intro tab_ok Tryz.func6 rfl (by kernel_rfl) (Nat.le_of_ble_eq_true rfl) ?_
  refine VC.reg tab_ok [] rfl ?_
  refine VX.meek rfl ?_
  refine VX.nil ?_
  refine VC.seq ?_
  refine VC.reg tab_ok [] rfl ?_
  refine VX.callP0 rfl rfl rfl (awake55_p) ?_
  refine VX.meek rfl ?_
  refine VX.nil ?_
  refine VC.condF rfl ?_
  refine VC.skip ?_
  refine VC.seq ?_
  refine VC.reg tab_ok [] rfl ?_
  refine VX.meek rfl ?_
  refine VX.meek (t := I64 (s.length : Nat)) rfl ?_
  iterate 2 refine VX.meek rfl ?_
  refine' VX.merge (d := 26) [_, _, _, _] rfl ?_ rfl ?_
  rotate_left
  · refine VX.guard rfl rfl (fun hb3_3 => ?_) (fun hb3_3 => ?_)
    · have ghb3_3 := hb3_3
      try simp only [au_std, Bool.not_true, Bool.not_false] at ghb3_3
      refine VX.meek rfl ?_
      refine VX.guardT rfl rfl hb3_3 ?_
      refine VX.callP0 rfl rfl rfl (hsh) ?_
      refine VX.guardT rfl rfl hb3_3 ?_
      refine VX.meek rfl ?_
      refine VX.pickO rfl (fun _ => rfl) ?_
      exact VX.nil ⟨rfl, rfl⟩
    · refine VX.guardF rfl rfl hb3_3 ?_
      refine VX.guardF rfl rfl hb3_3 ?_
      exact VX.pickO rfl (fun h => absurd (h.symm.trans hb3_3) (by decide)) (VX.nil ⟨rfl, rfl⟩)
  refine VX.meek rfl ?_
  refine' VX.merge (d := 31) [_, _, _, _] rfl ?_ rfl ?_
  rotate_left
  · refine VX.guard rfl rfl (fun hb3_8 => ?_) (fun hb3_8 => ?_)
    · have ghb3_8 := hb3_8
      try simp only [au_std, Bool.not_true, Bool.not_false] at ghb3_8
      refine VX.meek rfl ?_
      refine VX.guardT rfl rfl hb3_8 ?_
      refine VX.callP0 rfl rfl rfl (right55_p s (by omega)) ?_
      refine VX.guardT rfl rfl hb3_8 ?_
      refine VX.meek rfl ?_
      refine VX.pickO rfl (fun _ => rfl) ?_
      exact VX.nil ⟨rfl, rfl⟩
    · refine VX.guardF rfl rfl hb3_8 ?_
      refine VX.guardF rfl rfl hb3_8 ?_
      exact VX.pickO rfl (fun h => absurd (h.symm.trans hb3_8) (by decide)) (VX.nil ⟨rfl, rfl⟩)
  refine VX.nil ?_
  refine VC.cond rfl (fun hc1 => ?_) (fun hc1 => ?_)
  · (try simp only [au_std] at hc1)
    refine VC.reg tab_ok [] rfl ?_
    refine VX.meek rfl ?_
    refine VX.nil ?_
    refine VC.ret ?_
    exact ⟨trivial, _, rfl, Cv.eq (by first | rfl | (simp [*]; done)) rfl⟩
  · (try simp only [au_std] at hc1); obtain ⟨⟨h3, hst⟩, hri⟩ := hc1; have hnw := hnew2 (by omega) hri; have k00 := k0 (by omega); have hll := shortB_len hst
    refine VC.skip ?_
    refine VC.reg tab_ok [] rfl ?_
    refine VX.meek rfl ?_
    refine VX.callP0 rfl rfl rfl (hnw) ?_
    iterate 4 refine VX.meek rfl ?_
    refine VX.new rfl rfl ?_
    refine VX.store rfl rfl rfl rfl rfl au_s rfl ?_
    iterate 2 refine VX.meek rfl ?_
    refine VX.nil ?_
    refine VC.seq ?_
    refine VC.reg tab_ok [] rfl ?_
    iterate 2 refine VX.meek rfl ?_
    refine VX.nil ?_
    refine VC.view ([(7, .ptr 0 0)]) ([.c (edC e0)]) [1, 2, 39] rfl (by refine ⟨[some 0], rfl, by first | trivial | decide, by first | rfl | (simp only [noO, Bool.and_true, Bool.and_eq_true]; first | assumption | (refine ⟨?_, ?_⟩ <;> assumption)) | (simp only [noO, *, Bool.and_true, Bool.true_and, Bool.and_self]; done), ?_, ?_⟩ <;> (repeat' first | exact trivial | exact CvB_n | exact CvB_d | exact CvB_o rfl | refine CvE_app ?_ ?_ | refine CvE_cons rfl ?_ ?_ | refine CvH_cons ?_ ?_ | refine CvB_c rfl ?_ | fail) <;> first | exact au_v | (exact CvL.eq rfl hp0)) ?_
    refine VC.condF rfl ?_
    refine VC.skip ?_
    refine VC.reg tab_ok [] rfl ?_
    refine VX.meek rfl ?_
    refine VX.meek (t := I64 c) (by show some (T.v (.int .i64 (IntKind.i64.wrap c)), (none : Option (Nat × List T))) = _; rw [wrap_in (by omega)]) ?_
    refine VX.remX rfl rfl (by omega) (by omega) ?_
    refine VX.add rfl rfl (by omega) ?_; rw [← hb]
    refine VX.meek rfl ?_
    refine VX.nil ?_
    refine VC.seq ?_
    refine VC.reg tab_ok [] rfl ?_
    refine VX.meek rfl ?_
    refine VX.nil ?_
    refine VC.block ?_
    refine VC.loopS2 (σ1 := Nat) (σ2 := Ed) (fun i _ => l.length - i) (fun i e => i ≤ l.length ∧ KA e i) (fun i e => [(11, I64 (i : Nat)), (7, .ptr 0 0)]) (fun i e => [.c (edC e)]) [1, 10] rfl (0) (e0) ?_ ?_ ?_
    · refine ⟨[some 0], rfl, by first | trivial | decide, by first | rfl | (simp only [noO, Bool.and_true, Bool.and_eq_true]; first | assumption | (refine ⟨?_, ?_⟩ <;> assumption)) | (simp only [noO, *, Bool.and_true, Bool.true_and, Bool.and_self]; done), ?_, ?_⟩ <;> (repeat' first | exact trivial | exact CvB_n | exact CvB_d | exact CvB_o rfl | refine CvE_app ?_ ?_ | refine CvE_cons rfl ?_ ?_ | refine CvH_cons ?_ ?_ | refine CvB_c rfl ?_ | fail) <;> first | exact au_v | (first | exact CvL.pure hp0 | exact CvL.pure rfl | exact Cv.pure (by simp only [T.pure, hpl]))
    · exact ⟨Nat.zero_le _, k00⟩
    rintro i e ⟨hi, he⟩
    refine VC.seq ?_
    refine VC.reg tab_ok [] rfl ?_
    iterate 4 refine VX.meek rfl ?_
    refine VX.nil ?_
    refine VC.cond rfl (fun hc3 => ?_) (fun hc3 => ?_)
    · (try simp only [au_std] at hc3); have hil : i < l.length := (by omega); have hsa := shortB_at hst hil; have hstp := step_c e l[i]! he.w ⟨he.k.1, by have := he.k; omega⟩ hsa.1 (by omega); have he2 := he.step l[i]!; have hpe := ed_pure e; have hpo := ot_pure l[i]!
      generalize (e.step l[i]!).1 = e2 at *
      generalize (e.step l[i]!).2 = r2 at *
      have hp2 := ed_pure e2
      have hpr2 := encL_pure cRq r2
      have hmk := marked_p e2
      have htx := text_p e2
      have hcu := curs_p e2
      have hke := he2.key b hbr
      have hpu := put_one he2.w.o b
      have hcur := he2.w.o.cur
      have hlo : e2.c.lo ≤ e2.c.hi ∧ e2.c.hi ≤ e2.c.bf.text.length := (by unfold Ec.lo Ec.hi; omega)
      have hcc : e2.c.cur = e2.c.lo ∨ e2.c.cur = e2.c.hi := (by unfold Ec.lo Ec.hi; omega)
      have hk := key55_p b.toNat 0
      have hst3 := step_c e2 (keyO b.toNat 0) he2.w ⟨he2.k.1, by have := he2.k; omega⟩ (keyO_ok _ _ (by omega) (by omega)) (by simp [keyO])
      have hpk := ot_pure (keyO b.toNat 0)
      rw [← hke] at hpu
      generalize (e2.step (keyO b.toNat 0)).1 = x at *
      generalize (e2.step (keyO b.toNat 0)).2 = rx at *
      have hpx := ed_pure x
      have hprx := encL_pure cRq rx
      have htxx := text_p x
      have hcux := curs_p x
      have hlen2 := he2.w.len
      refine VC.skip ?_
      refine VC.seq ?_
      refine VC.block ?_
      refine VC.drwT tab_ok [] [_, _, _, _, _, _, _, _, _, _] [true, true, true, true, true, true, true, true, false, false] rfl (by kernel_rfl) (by kernel_rfl) (by kernel_rfl) (by kernel_rfl) ?_
      refine VT.seg true (l1 := [_, _, _, _, _, _, _, _]) rfl ?_
      first | refine VX.meek rfl ?_ | refine VX.loadI rfl rfl au_l ?_ | refine VX.loadP rfl rfl rfl au_l ?_
      iterate 2 refine VX.meek rfl ?_
      refine VX.idxI (m := i) rfl rfl rfl rfl rfl rfl hil ?_
      refine VX.loadI rfl rfl (encL_part0 cOt (m := i) (a := l[i]!) (getE hil) (by decide) rfl) ?_
      refine VX.callP0 rfl rfl rfl (hstp) ?_
      iterate 2 refine VX.meek rfl ?_
      refine VX.nil ⟨rfl, ?_⟩
      refine VT.seg false (l1 := [_]) rfl ?_
      refine VX.meek rfl ?_
      refine VX.nil ⟨rfl, ?_⟩
      refine VT.sto rfl rfl rfl rfl ?_
      refine VT.nil (⟨Nat.le_of_ble_eq_true rfl, rfl, trivial⟩) ⟨rfl, ?_⟩
      refine VX.nil ?_
      refine VC.view ([(7, .ptr 0 0)]) ([.c (edC e2)]) [1, 10, 11] rfl (by refine ⟨[some 0], rfl, by first | trivial | decide, by first | rfl | (simp only [noO, Bool.and_true, Bool.and_eq_true]; first | assumption | (refine ⟨?_, ?_⟩ <;> assumption)) | (simp only [noO, *, Bool.and_true, Bool.true_and, Bool.and_self]; done), ?_, ?_⟩ <;> (repeat' first | exact trivial | exact CvB_n | exact CvB_d | exact CvB_o rfl | refine CvE_app ?_ ?_ | refine CvE_cons rfl ?_ ?_ | refine CvH_cons ?_ ?_ | refine CvB_c rfl ?_ | fail) <;> first | exact au_v | (first | exact CvL.eq rfl hp2 | exact Cv.pure (by simp only [T.pure, hpl]))) ?_
      refine VC.reg tab_ok [] rfl ?_
      first | refine VX.meek rfl ?_ | refine VX.loadI rfl rfl au_l ?_ | refine VX.loadP rfl rfl rfl au_l ?_
      refine VX.callP0 rfl rfl rfl (hmk) ?_
      iterate 5 refine VX.meek rfl ?_
      refine VX.nil ?_
      refine VC.reg tab_ok [] rfl ?_
      first | refine VX.meek rfl ?_ | refine VX.loadI rfl rfl au_l ?_ | refine VX.loadP rfl rfl rfl au_l ?_
      refine VX.callP0 rfl rfl rfl (htx) ?_
      refine VX.meek rfl ?_
      refine VX.nil ?_
      refine VC.seq ?_
      refine VC.reg tab_ok [] rfl ?_
      iterate 3 refine VX.meek rfl ?_
      refine' VX.merge (d := 72) [_, _, _, _] rfl ?_ rfl ?_
      rotate_left
      · refine VX.guard rfl rfl (fun hb15_2 => ?_) (fun hb15_2 => ?_)
        · have ghb15_2 := hb15_2
          try simp only [au_std, Bool.not_true, Bool.not_false] at ghb15_2
          refine VX.meek rfl ?_
          refine VX.guardT rfl rfl hb15_2 ?_
          refine VX.meek rfl ?_
          refine VX.guardT rfl rfl hb15_2 ?_
          refine VX.meek rfl ?_
          refine VX.pickO rfl (fun _ => rfl) ?_
          exact VX.nil ⟨rfl, rfl⟩
        · refine VX.guardF rfl rfl hb15_2 ?_
          refine VX.guardF rfl rfl hb15_2 ?_
          exact VX.pickO rfl (fun h => absurd (h.symm.trans hb15_2) (by decide)) (VX.nil ⟨rfl, rfl⟩)
      refine VX.meek rfl ?_
      refine' VX.merge (d := 78) [_, _, _, _, _] rfl ?_ rfl ?_
      rotate_left
      · refine VX.guard rfl rfl (fun hb15_7 => ?_) (fun hb15_7 => ?_)
        · have ghb15_7 := hb15_7
          try simp only [au_std, Bool.not_true, Bool.not_false] at ghb15_7
          refine VX.meek rfl ?_
          refine VX.guardT rfl rfl hb15_7 ?_
          refine VX.meek rfl ?_
          refine VX.guardT rfl rfl hb15_7 ?_
          refine VX.meek (t := I64 (e2.c.bf.text.length : Nat)) rfl ?_
          refine VX.guardT rfl rfl hb15_7 ?_
          refine VX.meek rfl ?_
          refine VX.pickO rfl (fun _ => rfl) ?_
          exact VX.nil ⟨rfl, rfl⟩
        · refine VX.guardF rfl rfl hb15_7 ?_
          iterate 2 refine VX.guardF rfl rfl hb15_7 ?_
          exact VX.pickO rfl (fun h => absurd (h.symm.trans hb15_7) (by decide)) (VX.nil ⟨rfl, rfl⟩)
      refine VX.meek rfl ?_
      refine' VX.merge (d := 90) [_, _, _, _, _, _, _, _, _, _, _] rfl ?_ rfl ?_
      rotate_left
      · refine VX.guard rfl rfl (fun hb15_13 => ?_) (fun hb15_13 => ?_)
        · have ghb15_13 := hb15_13
          try simp only [au_std, Bool.not_true, Bool.not_false] at ghb15_13
          first | refine VX.meek rfl ?_ | refine VX.loadI rfl rfl au_l ?_ | refine VX.loadP rfl rfl rfl au_l ?_
          refine VX.guardT rfl rfl hb15_13 ?_
          refine VX.callP0 rfl rfl rfl (hcu) ?_
          refine VX.guardT rfl rfl hb15_13 ?_
          refine VX.meek rfl ?_
          refine VX.guardT rfl rfl hb15_13 ?_
          refine VX.meek rfl ?_
          refine VX.guardT rfl rfl hb15_13 ?_
          refine VX.meek rfl ?_
          refine' VX.merge (d := 89) [_, _, _, _, _] rfl ?_ rfl ?_
          rotate_left
          · refine VX.guard rfl rfl (fun hb15_18 => ?_) (fun hb15_18 => ?_)
            · have ghb15_18 := hb15_18
              try simp only [au_std, Bool.not_true, Bool.not_false] at ghb15_18
              first | refine VX.meek rfl ?_ | refine VX.loadI rfl rfl au_l ?_ | refine VX.loadP rfl rfl rfl au_l ?_
              refine VX.guardT rfl rfl hb15_18 ?_
              refine VX.callP0 rfl rfl rfl (hcu) ?_
              refine VX.guardT rfl rfl hb15_18 ?_
              refine VX.meek rfl ?_
              refine VX.guardT rfl rfl hb15_18 ?_
              refine VX.meek rfl ?_
              refine VX.guardT rfl rfl hb15_13 ?_
              refine VX.pickA rfl (fun _ => rfl) ?_
              exact VX.nil ⟨rfl, rfl⟩
            · refine VX.guardF rfl rfl hb15_18 ?_
              iterate 2 refine VX.guardF rfl rfl hb15_18 ?_
              refine VX.guardT rfl rfl hb15_13 ?_
              exact VX.pickA rfl (fun h => absurd (h.symm.trans hb15_18) (by decide)) (VX.nil ⟨rfl, rfl⟩)
          refine VX.pickO rfl (fun _ => rfl) ?_
          exact VX.nil ⟨rfl, rfl⟩
        · refine VX.guardF rfl rfl hb15_13 ?_
          iterate 3 refine VX.guardF rfl rfl hb15_13 ?_
          iterate 4 refine VX.guardU rfl rfl ?_
          refine VX.guardF rfl rfl hb15_13 ?_
          exact VX.pickO rfl (fun h => absurd (h.symm.trans hb15_13) (by decide)) (VX.nil ⟨rfl, rfl⟩)
      refine VX.nil ?_
      refine VC.cond rfl (fun hc4 => ?_) (fun hc4 => ?_)
      · (try simp only [au_std] at hc4); omega
      · (try simp only [au_std] at hc4)
        refine VC.skip ?_
        refine VC.drwS tab_ok [] [_, _, _, _, _, _, _, _, _] (_) rfl (by kernel_rfl) (by kernel_rfl) (by kernel_rfl) (seen_refl _) ?_
        refine VS.seg (l1 := [_, _, _, _, _, _, _]) rfl ?_
        first | refine VX.meek rfl ?_ | refine VX.loadI rfl rfl au_l ?_ | refine VX.loadP rfl rfl rfl au_l ?_
        refine VX.meek rfl ?_
        refine VX.callP0 rfl rfl rfl (hk) ?_
        refine VX.callP0 rfl rfl rfl (hst3) ?_
        iterate 3 refine VX.meek rfl ?_
        refine VX.nil ?_
        refine VS.hid rfl ?_
        refine VS.sto rfl rfl rfl rfl ?_
        refine VS.nil (⟨rfl, Nat.le_of_ble_eq_true rfl, rfl, trivial⟩) ?_
        refine VX.meek rfl ?_
        refine VX.nil ?_
        refine VC.view ([(7, .ptr 0 0), (15, .ptr 1 0)]) ([.c (edC e2), .c (edC x)]) [1, 10, 11, 12, 13, 14] rfl (by refine ⟨[some 0, some 1], rfl, by first | trivial | decide, by first | rfl | (simp only [noO, Bool.and_true, Bool.and_eq_true]; first | assumption | (refine ⟨?_, ?_⟩ <;> assumption)) | (simp only [noO, *, Bool.and_true, Bool.true_and, Bool.and_self]; done), ?_, ?_⟩ <;> (repeat' first | exact trivial | exact CvB_n | exact CvB_d | exact CvB_o rfl | refine CvE_app ?_ ?_ | refine CvE_cons rfl ?_ ?_ | refine CvH_cons ?_ ?_ | refine CvB_c rfl ?_ | fail) <;> first | exact au_v | (first | exact CvL.eq rfl hp2 | exact CvL.eq rfl hpx | exact Cv.pure (by simp only [T.pure, hpl]))) ?_
        refine VC.drw tab_ok [113] [_, _, _, _, _, _, _, _, _, _, _, _, _, _, _, _, _, _, _, _, _, _, _, _, _, _, _, _, _, _, _] rfl (by kernel_rfl) (by kernel_rfl) ?_
        refine VX.meek rfl ?_
        refine VX.meek (t := I64 (e2.c.bf.text.length : Nat)) rfl ?_
        refine VX.meek rfl ?_
        first | refine VX.sub rfl rfl (by omega) ?_ | refine VX.meek rfl ?_
        refine VX.meek rfl ?_
        first | refine VX.add rfl rfl (by omega) ?_ | refine VX.meek rfl ?_
        iterate 2 refine VX.meek rfl ?_
        refine' VX.merge (d := 128) [_, _, _, _, _, _, _, _, _, _, _, _, _, _, _, _, _, _, _, _, _, _, _] rfl ?_ rfl ?_
        rotate_left
        · refine VX.guard rfl rfl (fun hb18_7 => ?_) (fun hb18_7 => ?_)
          · have ghb18_7 := hb18_7
            try simp only [au_std, Bool.not_true, Bool.not_false] at ghb18_7
            have hpv := hpu (by omega); rw [hpv.1] at htxx; rw [hpv.2] at hcux
            first | refine VX.meek rfl ?_ | refine VX.loadI rfl rfl au_l ?_ | refine VX.loadP rfl rfl rfl au_l ?_
            refine VX.guardT rfl rfl hb18_7 ?_
            refine VX.callP0 rfl rfl rfl (htxx) ?_
            refine VX.guardT rfl rfl hb18_7 ?_
            refine VX.meek rfl ?_
            refine VX.guardT rfl rfl hb18_7 ?_
            refine VX.meek rfl ?_
            refine VX.guardT rfl rfl hb18_7 ?_
            refine VX.strHe (r := e2.c.lo) rfl rfl rfl rfl rfl (by omega) ?_
            refine VX.guardT rfl rfl hb18_7 ?_
            refine VX.meek rfl ?_
            refine VX.guardT rfl rfl hb18_7 ?_
            refine VX.meek (t := U8 (b.toNat : Nat)) (by show some (T.v (.int .u8 (IntKind.u8.wrap (b.toNat : Int))), (none : Option (Nat × List T))) = _; rw [wrapU (by omega)]) ?_
            refine VX.guardT rfl rfl hb18_7 ?_
            refine VX.newI rfl rfl ?_
            refine VX.guardT rfl rfl hb18_7 ?_
            first | refine VX.strI (xs := [b]) rfl rfl rfl rfl rfl rfl rfl (Nat.le_of_ble_eq_true rfl) rfl ?_ | refine VX.strY (xs := [b]) rfl rfl rfl rfl rfl rfl rfl rfl (Nat.le_of_ble_eq_true rfl) rfl ?_
            refine VX.guardT rfl rfl hb18_7 ?_
            refine VX.strCat (a := e2.c.bf.text.take e2.c.lo) (b := [b]) rfl rfl (by rw [List.length_take, List.length_singleton]; omega) ?_
            refine VX.guardT rfl rfl hb18_7 ?_
            refine VX.meek rfl ?_
            refine VX.guardT rfl rfl hb18_7 ?_
            refine VX.meek rfl ?_
            refine VX.guardT rfl rfl hb18_7 ?_
            refine VX.strTl (p := e2.c.hi) rfl rfl rfl rfl rfl hlo.2 ?_
            refine VX.guardT rfl rfl hb18_7 ?_
            refine VX.strCat (a := e2.c.bf.text.take e2.c.lo ++ [b]) (b := e2.c.bf.text.drop e2.c.hi) rfl rfl (by rw [List.length_append, List.length_take, List.length_drop, List.length_singleton]; omega) ?_
            refine VX.guardT rfl rfl hb18_7 ?_
            refine VX.strNeN rfl rfl ?_; rw [bne_self_eq_false]
            refine VX.guardT rfl rfl hb18_7 ?_
            refine VX.meek rfl ?_
            refine' VX.merge (d := 127) [_, _, _, _, _, _] rfl ?_ rfl ?_
            rotate_left
            · refine VX.guard rfl rfl (fun hb18_23 => ?_) (fun hb18_23 => ?_)
              · have ghb18_23 := hb18_23
                try simp only [au_std, Bool.not_true, Bool.not_false] at ghb18_23
                first | refine VX.meek rfl ?_ | refine VX.loadI rfl rfl au_l ?_ | refine VX.loadP rfl rfl rfl au_l ?_
                refine VX.guardT rfl rfl hb18_23 ?_
                refine VX.callP0 rfl rfl rfl (hcux) ?_
                refine VX.guardT rfl rfl hb18_23 ?_
                refine VX.meek rfl ?_
                refine VX.guardT rfl rfl hb18_23 ?_
                first | refine VX.add rfl rfl (by omega) ?_ | refine VX.meek rfl ?_
                refine VX.guardT rfl rfl hb18_23 ?_
                refine VX.meek rfl ?_
                refine VX.guardT rfl rfl hb18_7 ?_
                refine VX.pickO rfl (fun _ => rfl) ?_
                exact VX.nil ⟨rfl, rfl⟩
              · refine VX.guardF rfl rfl hb18_23 ?_
                iterate 3 refine VX.guardF rfl rfl hb18_23 ?_
                refine VX.guardT rfl rfl hb18_7 ?_
                exact VX.pickO rfl (fun h => absurd (h.symm.trans hb18_23) (by decide)) (VX.nil ⟨rfl, rfl⟩)
            refine VX.pickA rfl (fun _ => rfl) ?_
            exact VX.nil ⟨rfl, rfl⟩
          · refine VX.guardF rfl rfl hb18_7 ?_
            iterate 14 refine VX.guardF rfl rfl hb18_7 ?_
            iterate 5 refine VX.guardU rfl rfl ?_
            refine VX.guardF rfl rfl hb18_7 ?_
            exact VX.pickA rfl (fun h => absurd (h.symm.trans hb18_7) (by decide)) (VX.nil ⟨rfl, rfl⟩)
        iterate 2 refine VX.nil ?_
        refine VC.cond rfl (fun hc5 => ?_) (fun hc5 => ?_)
        · (try simp only [au_std] at hc5); have hpv := hpu (by omega); simp [hpv.2] at hc5
        · (try simp only [au_std] at hc5)
          refine VC.skip ?_
          refine VC.regN tab_ok [] rfl ?_
          refine VX.meek rfl ?_
          first | refine VX.add rfl rfl (by omega) ?_ | refine VX.meek rfl ?_
          refine VX.meek rfl ?_
          refine VX.nil ?_
          refine ⟨i + 1, e2, by (try dsimp only); omega, ?_, (by refine ⟨[some 0], rfl, by first | trivial | decide, by first | rfl | (simp only [noO, Bool.and_true, Bool.and_eq_true]; first | assumption | (refine ⟨?_, ?_⟩ <;> assumption)) | (simp only [noO, *, Bool.and_true, Bool.true_and, Bool.and_self]; done), ?_, ?_⟩ <;> (repeat' first | exact trivial | exact CvB_n | exact CvB_d | exact CvB_o rfl | refine CvE_app ?_ ?_ | refine CvE_cons rfl ?_ ?_ | refine CvH_cons ?_ ?_ | refine CvB_c rfl ?_ | fail) <;> first | exact au_v | (first | exact CvL.pure hp2 | exact CvL.pure rfl | exact Cv.pure (by simp only [T.pure, hpl])))⟩
          exact ⟨by omega, he2⟩
    · (try simp only [au_std] at hc3)
      refine VC.exit ?_
      refine VC.reg tab_ok [] rfl ?_
      refine VX.meek rfl ?_
      refine VX.nil ?_
      refine VC.ret ?_
      exact ⟨trivial, _, rfl, Cv.eq (by first | rfl | (simp [*]; done)) rfl⟩
end
section
open Go.RowKit
set_option maxRecDepth 100000
set_option maxHeartbeats 2000000
theorem sightN_idem {f k m : Int} (h : 1 ≤ m) : sightN (sightN f k m) k m = sightN f k m := by unfold sightN; repeat' split <;> omega
theorem seen_seen {e : Ed} (hw : e.W) : e.seen.seen = e.seen := by
  have h := hw.rows
  have h1 : sightN (sightN e.top (spotN e.c.bf.text e.c.cur).1 e.rows) (spotN e.c.bf.text e.c.cur).1 e.rows = sightN e.top (spotN e.c.bf.text e.c.cur).1 e.rows := sightN_idem (by omega)
  have h2 : sightN (sightN e.left (spotN e.c.bf.text e.c.cur).2 e.cols) (spotN e.c.bf.text e.c.cur).2 e.cols = sightN e.left (spotN e.c.bf.text e.c.cur).2 e.cols := sightN_idem (by omega)
  show ({ e.seen with top := sightN (sightN e.top (spotN e.c.bf.text e.c.cur).1 e.rows) (spotN e.c.bf.text e.c.cur).1 e.rows, left := sightN (sightN e.left (spotN e.c.bf.text e.c.cur).2 e.cols) (spotN e.c.bf.text e.c.cur).2 e.cols } : Ed) = _
  rw [h1, h2]
  rfl
theorem redN_same {e2 : Ed} {was : Nat → Lk} {l : List Rq} (h : ∀ y, e2.look y = was y) : ∀ n, e2.redN was l n = l
  | 0 => Ed.redN_zero _ _ _
  | n + 1 => by rw [Ed.redN_same (h n), redN_same h n]
theorem seen_cnt {e : Ed} (h : e.seen = e) (k : Int) : ({ e with cnt := k } : Ed).seen = { e with cnt := k } := by
  show ({ e.seen with cnt := k } : Ed) = _
  rw [h]
theorem anew_cop {e : Ed} (h : e.seen = e) (x : List UInt8) (l : List Rq) : e.anew (e.wc { e.c with cop := x }) l = (e.wc { e.c with cop := x }, l) := by
  have h1 : (e.wc { e.c with cop := x }).seen = e.wc { e.c with cop := x } := by
    have ht : sightN e.top (spotN e.c.bf.text e.c.cur).1 e.rows = e.top := congrArg Ed.top h
    have hl : sightN e.left (spotN e.c.bf.text e.c.cur).2 e.cols = e.left := congrArg Ed.left h
    show ({ e.wc { e.c with cop := x } with top := sightN e.top (spotN e.c.bf.text e.c.cur).1 e.rows, left := sightN e.left (spotN e.c.bf.text e.c.cur).2 e.cols } : Ed) = _
    rw [ht, hl]
  unfold Ed.anew
  rw [h1]
  have h2 : ∀ y, (e.wc { e.c with cop := x }).look y = e.look y := fun y => rfl
  rw [redN_same h2]
theorem step_keyE (e : Ed) (hm : e.made = true) (hn : e.win = 1048577) (code mods : Int) : e.step (keyO code mods) = doneE (e.anew (e.wc (e.c.key code (mods % 256))) (e.keyR code (mods % 256) 5)) := by
  have h1 : ¬ (e.made = false ∨ wholeB (keyO code mods) = false) := by
    rintro (h | h)
    · rw [hm] at h; cases h
    · cases h
  have h2 : ¬ (keyO code mods).kind = 1 := by show ¬ (2 : Int) = 1; omega
  have h3 : ¬ (keyO code mods).n[0]! ≠ e.win := by rw [hn]; show ¬ (1048577 : Int) ≠ 1048577; simp
  unfold Ed.step
  rw [if_neg h1, if_neg h2, if_neg h3]
  rfl
theorem bytes_got {s : List UInt8} (h : rightB s = true) : gotB (s.map fun b => (b.toNat : Int)) = s := by
  unfold gotB
  rw [List.filter_eq_self.2, List.map_map]
  · have : ((fun v : Int => UInt8.ofNat v.toNat) ∘ fun b : UInt8 => (b.toNat : Int)) = id := by
      funext b
      show UInt8.ofNat ((b.toNat : Int)).toNat = b
      rw [Int.toNat_natCast]
      simp
    rw [this, List.map_id]
  · intro v hv
    obtain ⟨b, hb, rfl⟩ := List.mem_map.1 hv
    have := List.all_eq_true.1 h b hb
    unfold okB at this
    unfold gotP
    simp at this ⊢
    omega
def selO : Ot := ⟨2, 23, 0, [1048577, 99, 3, 4, 9, 5], [], []⟩
def notO : Ot := ⟨2, 24, 0, [1048577, 3, 4, 9, 5], [], []⟩
def repO (seq : Int) (s : List UInt8) : Ot := ⟨1, 15, seq, [4, 8, 0], [], s.map fun b => (b.toNat : Int)⟩
theorem reply_p (seq : Int) (s : List UInt8) (hs : s.length ≤ 100000) : CallP Tryz.prog 14 [I64 seq, strT s] (otT (repO seq s)) := by
  have hpo := ot_pure (repO seq s)
  have hml : (s.map fun b => (b.toNat : Int)).length = s.length := by simp
  refine CallP.intro2 au_pu au_pu ?_
  refine CallT.intro tab_ok Tryz.func14 rfl (by kernel_rfl) (Nat.le_of_ble_eq_true rfl) ?_
  refine VC.reg tab_ok [] rfl ?_
  refine VX.new rfl rfl ?_
  refine VX.nil ?_
  refine VC.reg tab_ok [] rfl ?_
  refine VX.meek rfl ?_
  refine VX.nil ?_
  refine VC.seq ?_
  refine VC.reg tab_ok [] rfl ?_
  refine VX.meek rfl ?_
  refine VX.nil ?_
  refine VC.block ?_
  refine VC.loopS (σ := Nat) (fun i => s.length - i) (fun i => i ≤ s.length) (fun i => [(6, I64 (i : Nat)), (4, .ptr 0 0), (5, .slc 1 0 i 1 none)]) (fun i => [.c [I64 0, I64 0, I64 0, NIL, strT [], NIL], .c (encL cI ((s.take i).map fun b => (b.toNat : Int)))]) [0, 1] rfl (0) ?_ ?_ ?_
  · refine ⟨[some 0, none], rfl, by first | trivial | decide, by first | rfl | (simp only [noO, Bool.and_true, Bool.and_eq_true]; first | assumption | (refine ⟨?_, ?_⟩ <;> assumption)) | (simp only [noO, *, Bool.and_true, Bool.true_and, Bool.and_self]; done), ?_, ?_⟩ <;> (repeat' first | exact trivial | exact CvB_n | exact CvB_d | exact CvB_o rfl | refine CvE_app ?_ ?_ | refine CvE_cons rfl ?_ ?_ | refine CvH_cons ?_ ?_ | refine CvB_c rfl ?_ | fail) <;> first | exact au_v | (first | exact CvL.pure rfl | exact Cv.pure rfl)
  · (try dsimp only); omega
  rintro i hi
  refine VC.seq ?_
  refine VC.reg tab_ok [] rfl ?_
  iterate 2 refine VX.meek rfl ?_
  refine VX.meek (t := I64 (s.length : Nat)) rfl ?_
  refine VX.meek rfl ?_
  refine VX.nil ?_
  refine VC.cond rfl (fun hc0 => ?_) (fun hc0 => ?_)
  · (try simp only [au_std] at hc0); have hil : i < s.length := (by omega); have hat : s[i]? = some (s[i]?.getD 0) := (by rw [List.getElem?_eq_getElem hil]; rfl); have hbt := (s[i]?.getD 0).toNat_lt; have hsn : (s.take (i + 1)).map (fun b => (b.toNat : Int)) = (s.take i).map (fun b => (b.toNat : Int)) ++ [((s[i]?.getD 0).toNat : Int)] := (by rw [List.take_add_one, List.map_append, hat]; rfl); have hmt : ((s.take i).map (fun b => (b.toNat : Int))).length = i := (by rw [List.length_map, List.length_take]; omega)
    refine VC.skip ?_
    refine VC.seq ?_
    refine VC.block ?_
    refine VC.regN tab_ok [18] rfl ?_
    iterate 3 refine VX.meek rfl ?_
    refine VX.idxY rfl rfl rfl rfl rfl hat ?_
    refine VX.meek (t := I64 (s[i]?.getD 0).toNat) (by show some (T.v (.int .i64 (IntKind.i64.wrap ((s[i]?.getD 0).toNat : Int))), (none : Option (Nat × List T))) = _; rw [wrap_in (by omega)]) ?_
    refine VX.newI rfl rfl ?_
    refine' VX.append rfl rfl rfl rfl rfl rfl rfl rfl ?h1 ?h2 ?h3 ?h4 ?h5 ?_
    case h1 => rw [encL_len, cI_sz, hmt]; (try dsimp only); omega
    case h2 => exact Nat.le_trans (Nat.mul_le_mul_right _ (show _ ≤ 200000 by omega)) (by decide)
    case h3 => omega
    case h4 => rfl
    case h5 => rfl
    refine VX.meek rfl ?_
    refine VX.nil ?_
    refine VC.regN tab_ok [] rfl ?_
    refine VX.meek rfl ?_
    first | refine VX.add rfl rfl (by omega) ?_ | refine VX.meek rfl ?_
    refine VX.meek rfl ?_
    refine VX.nil ?_
    refine ⟨i + 1, by (try dsimp only); omega, ?_, (by refine ⟨[some 0, some 2], rfl, by first | trivial | decide, by first | rfl | (simp only [noO, Bool.and_true, Bool.and_eq_true]; first | assumption | (refine ⟨?_, ?_⟩ <;> assumption)) | (simp only [noO, *, Bool.and_true, Bool.true_and, Bool.and_self]; done), ?_, ?_⟩ <;> (repeat' first | exact trivial | exact CvB_n | exact CvB_d | exact CvB_o rfl | refine CvE_app ?_ ?_ | refine CvE_cons rfl ?_ ?_ | refine CvH_cons ?_ ?_ | refine CvB_c rfl ?_ | fail) <;> first | exact au_v | (first | exact CvL.pure rfl | exact Cv.slc rfl (.inl rfl) | exact CvL.eq (by rw [hsn, encL_append, List.drop_zero, List.take_of_length_le (by rw [encL_len, cI_sz, hmt]; exact Nat.le_refl _)]; rfl) (encL_pure _ _)))⟩
    (try dsimp only); omega
  · (try simp only [au_std] at hc0); obtain rfl : i = s.length := (by omega); rw [List.take_length]
    refine VC.exit ?_
    refine VC.reg tab_ok [21] rfl ?_
    refine VX.meek rfl ?_
    refine VX.newI rfl rfl ?_
    iterate 2 refine VX.meek rfl ?_
    refine VX.store rfl rfl rfl rfl rfl au_s rfl ?_
    refine VX.nil ?_
    refine VC.ret ?_
    exact ⟨trivial, _, rfl, Cv.agg (CvL.cons (Cv.pure rfl) (CvL.cons (Cv.pure rfl) (CvL.cons (Cv.pure rfl) (CvL.cons (Cv.islc (CvL.pure rfl) (.inr rfl)) (CvL.cons (Cv.pure rfl) (CvL.cons (Cv.fslcE (by simp [repO]) ⟨rfl, by simp⟩ (CvL.pure (encL_pure _ _))) CvL.nil))))))⟩
/- the plain course: s marked, copied, asked for and got -/
structure CopyR (s t : List UInt8) (a0 a1 a2 a3 b0 b1 b2 b3 : Ed) (r1 yr r6 : List Rq) : Prop where
  s1 : CallP Tryz.prog 10 [edT a0, otT (keyO 97 4)] (.tup [edT a1, rqT r1])
  s2 : CallP Tryz.prog 10 [edT a1, otT (keyO 99 4)] (.tup [edT a2, rqT [⟨50, [1048577, 3, 5], [], []⟩]])
  s3 : CallP Tryz.prog 10 [edT b0, otT (keyO 118 4)] (.tup [edT b1, rqT (⟨52, [1048577, 3, 4, 9, 5], [], []⟩ :: yr)])
  s4 : CallP Tryz.prog 10 [edT a2, otT selO] (.tup [edT a3, rqT [⟨13, [99, 9, 4, 8, 0], [], s.map fun b => (b.toNat : Int)⟩, ⟨53, [99, 0, 0, 24], [], [99, 3, 4, 9, 5]⟩]])
  s5 : CallP Tryz.prog 10 [edT b1, otT notO] (.tup [edT b2, rqT [⟨15, [1048577, 9, 4, 0, 4096, 1], [], []⟩]])
  s6 : CallP Tryz.prog 10 [edT b2, otT (repO (6 + ((yr.length + 1 : Nat) : Int) + 1) s)] (.tup [edT b3, rqT r6])
  ln : yr.length ≤ 200
  tx : b3.c.bf.text = s ++ t
  cu : b3.c.cur = s.length
theorem selO_ok : nOk selO.n := by
  intro v hv
  simp only [selO, List.mem_cons, List.mem_singleton, List.not_mem_nil, or_false] at hv
  omega
theorem notO_ok : nOk notO.n := by
  intro v hv
  simp only [notO, List.mem_cons, List.mem_singleton, List.not_mem_nil, or_false] at hv
  omega
theorem repO_ok (q : Int) (s : List UInt8) : nOk (repO q s).n := by
  intro v hv
  simp only [repO, List.mem_cons, List.mem_singleton, List.not_mem_nil, or_false] at hv
  omega
theorem copyR (s t : List UInt8) (hs : s ≠ []) (hsl : s.length ≤ 200) (htl : t.length ≤ 200) (hsr : rightB s = true) : ∃ a1 a2 a3 b1 b2 b3 r1 yr r6, CopyR s t (newEd 1048576 40 18 s) a1 a2 a3 (newEd 1048576 20 12 t) b1 b2 b3 r1 yr r6 := by
  have ka0 : KA (newEd 1048576 40 18 s) 0 := ⟨newEd_W (by omega) (by omega), rfl, rfl, by show (0 : Int) ≤ 6 ∧ (6 : Int) ≤ 6 + 200 * ((0 : Nat) : Int); omega⟩
  have kb0 : KA (newEd 1048576 20 12 t) 0 := ⟨newEd_W (by omega) (by omega), rfl, rfl, by show (0 : Int) ≤ 6 ∧ (6 : Int) ≤ 6 + 200 * ((0 : Nat) : Int); omega⟩
  have ca0 : (newEd 1048576 40 18 s).c = ⟨0, 0, ⟨[], [], s⟩, []⟩ := rfl
  have cb0 : (newEd 1048576 20 12 t).c = ⟨0, 0, ⟨[], [], t⟩, []⟩ := rfl
  have nb0 : (newEd 1048576 20 12 t).cnt = 6 := rfl
  generalize newEd 1048576 40 18 s = a0 at *
  generalize newEd 1048576 20 12 t = b0 at *
 
  have e1 := step_keyE a0 ka0.m ka0.n 97 4
  have ka1 := ka0.step (keyO 97 4)
  have st1 := step_c a0 (keyO 97 4) ka0.w ⟨ka0.k.1, by have := ka0.k; omega⟩ (keyO_ok _ _ (by omega) (by omega)) (by simp [keyO])
  have c1 : (a0.step (keyO 97 4)).1.c = ⟨s.length, 0, ⟨[], [], s⟩, []⟩ := by
    rw [(step_key a0 ka0.m ka0.n 97 4).1, ca0]; rfl
  have se1 : (a0.step (keyO 97 4)).1.seen = (a0.step (keyO 97 4)).1 := by
    rw [e1]
    exact seen_cnt (seen_seen (ka0.w.put_c (ka0.w.o.key _ _))) _
  generalize (a0.step (keyO 97 4)).1 = a1 at *
  generalize (a0.step (keyO 97 4)).2 = r1 at *
 
  have e2 := step_keyE a1 ka1.m ka1.n 99 4
  have ka2 := ka1.step (keyO 99 4)
  have st2 := step_c a1 (keyO 99 4) ka1.w ⟨ka1.k.1, by have := ka1.k; omega⟩ (keyO_ok _ _ (by omega) (by omega)) (by simp [keyO])
  have hlo : a1.c.lo = 0 ∧ a1.c.hi = s.length := by rw [c1]; unfold Ec.lo Ec.hi; exact ⟨Nat.min_zero _, Nat.max_zero _⟩
  have hsp : 0 < s.length := by cases s with | nil => exact absurd rfl hs | cons a l => simp
  have k2 : a1.c.key 99 (4 % 256) = { a1.c with cop := s } := by
    show a1.c.cmd 99 = _
    show (if a1.c.lo < a1.c.hi then { a1.c with cop := (a1.c.bf.text.take a1.c.hi).drop a1.c.lo } else a1.c) = _
    rw [hlo.1, hlo.2, if_pos hsp, List.drop_zero]
    have : a1.c.bf.text = s := by rw [c1]
    rw [this, List.take_length]
  have r2 : a1.keyR 99 (4 % 256) 5 = [⟨50, [1048577, 3, 5], [], []⟩] := by
    show a1.cmdR 99 5 = _
    show (if a1.c.lo < a1.c.hi then ([⟨50, [a1.win, 3, 5], [], []⟩] : List Rq) else []) = _
    rw [hlo.1, hlo.2, if_pos hsp, ka1.n]
  rw [k2, r2, anew_cop se1] at e2
  have er2 : (a1.step (keyO 99 4)).2 = [⟨50, [1048577, 3, 5], [], []⟩] := by rw [e2]; rfl
  have c2 : (a1.step (keyO 99 4)).1.c.cop = s := by rw [e2]; rfl
  rw [er2] at st2
  generalize (a1.step (keyO 99 4)).1 = a2 at *
 
  have st4 := step_c a2 selO ka2.w ⟨ka2.k.1, by have := ka2.k; omega⟩ selO_ok (by simp [selO])
  have e4 : (a2.step selO).2 = [⟨13, [99, 9, 4, 8, 0], [], s.map fun b => (b.toNat : Int)⟩, ⟨53, [99, 0, 0, 24], [], [99, 3, 4, 9, 5]⟩] := by
    have h1 : ¬ (a2.made = false ∨ wholeB selO = false) := by
      rintro (h | h)
      · rw [ka2.m] at h; cases h
      · cases h
    have h2 : ¬ selO.kind = 1 := by show ¬ (2 : Int) = 1; omega
    have h3 : ¬ selO.n[0]! ≠ a2.win := by rw [ka2.n]; show ¬ (1048577 : Int) ≠ 1048577; simp
    unfold Ed.step
    rw [if_neg h1, if_neg h2, if_neg h3]
    show a2.givR selO.n = _
    unfold Ed.givR
    rw [c2, if_pos ⟨rfl, rfl, by show (9 : Int) ≠ 0; omega, hs⟩]
    rfl
  rw [e4] at st4
  generalize (a2.step selO).1 = a3 at *
 
  have e3 := step_keyE b0 kb0.m kb0.n 118 4
  have kb1 := kb0.step (keyO 118 4)
  have st3 := step_c b0 (keyO 118 4) kb0.w ⟨kb0.k.1, by have := kb0.k; omega⟩ (keyO_ok _ _ (by omega) (by omega)) (by simp [keyO])
  have cb1 : (b0.step (keyO 118 4)).1.c = ⟨0, 0, ⟨[], [], t⟩, []⟩ := by
    rw [(step_key b0 kb0.m kb0.n 118 4).1, cb0]; rfl
  have hlen3 := (step_ok kb0.w (keyO 118 4) kb0.k.1).2.2.2
  obtain ⟨yr, hy⟩ : ∃ yr, (b0.step (keyO 118 4)).2 = ⟨52, [1048577, 3, 4, 9, 5], [], []⟩ :: yr := by
    rw [e3]
    unfold doneE Ed.anew Ed.redN
    have : b0.keyR 118 (4 % 256) 5 = [⟨52, [1048577, 3, 4, 9, 5], [], []⟩] := by
      show [(⟨52, [b0.win, 3, 4, 9, 5], [], []⟩ : Rq)] = _
      rw [kb0.n]
    rw [this]
    exact ⟨_, rfl⟩
  have nb1 : (b0.step (keyO 118 4)).1.cnt = 6 + ((yr.length + 1 : Nat) : Int) := by
    have h1 : (b0.step (keyO 118 4)).1.cnt = b0.cnt + ((b0.step (keyO 118 4)).2.length : Int) := by rw [e3]; rfl
    rw [h1, hy, nb0, List.length_cons]
  rw [hy] at st3 hlen3
  rw [List.length_cons] at hlen3
  generalize (b0.step (keyO 118 4)).1 = b1 at *
 
  have kb2 := kb1.step notO
  have st5 := step_c b1 notO kb1.w ⟨kb1.k.1, by have := kb1.k; omega⟩ notO_ok (by simp [notO])
  have e5 : b1.step notO = ({ b1 with asked := b1.cnt + 1, cnt := b1.cnt + 1 }, [⟨15, [1048577, 9, 4, 0, 4096, 1], [], []⟩]) := by
    have h1 : ¬ (b1.made = false ∨ wholeB notO = false) := by
      rintro (h | h)
      · rw [kb1.m] at h; cases h
      · cases h
    have h2 : ¬ notO.kind = 1 := by show ¬ (2 : Int) = 1; omega
    have h3 : ¬ notO.n[0]! ≠ b1.win := by rw [kb1.n]; show ¬ (1048577 : Int) ≠ 1048577; simp
    unfold Ed.step
    rw [if_neg h1, if_neg h2, if_neg h3]
    show doneE (b1.notiN notO.n) = _
    unfold Ed.notiN
    rw [if_neg (by show ¬ ((3 : Int) ≠ 3 ∨ (9 : Int) ≠ 9); simp), kb1.n]
    rfl
  have er5 : (b1.step notO).2 = [⟨15, [1048577, 9, 4, 0, 4096, 1], [], []⟩] := by rw [e5]
  have cb2 : (b1.step notO).1.c = ⟨0, 0, ⟨[], [], t⟩, []⟩ := by rw [e5]; exact cb1
  have ab2 : (b1.step notO).1.asked = 6 + ((yr.length + 1 : Nat) : Int) + 1 := by rw [e5, ← nb1]
  rw [er5] at st5
  generalize (b1.step notO).1 = b2 at *
 
  have st6 := step_c b2 (repO (6 + ((yr.length + 1 : Nat) : Int) + 1) s) kb2.w ⟨kb2.k.1, by have := kb2.k; omega⟩ (repO_ok _ _) (by simp [repO]; omega)
  have c6 : (b2.step (repO (6 + ((yr.length + 1 : Nat) : Int) + 1) s)).1.c = b2.c.put s := by
    have h1 : ¬ (b2.made = false ∨ wholeB (repO (6 + ((yr.length + 1 : Nat) : Int) + 1) s) = false) := by
      rintro (h | h)
      · rw [kb2.m] at h; cases h
      · cases h
    have h2 : (repO (6 + ((yr.length + 1 : Nat) : Int) + 1) s).kind = 1 := rfl
    unfold Ed.step
    rw [if_neg h1, if_pos h2, if_neg]
    · show (if gotB (s.map fun b => (b.toNat : Int)) = [] then b2.c else b2.c.put (gotB (s.map fun b => (b.toNat : Int)))) = _
      rw [bytes_got hsr, if_neg hs]
    · rw [ab2]
      show ¬ ((15 : Int) ≠ 15 ∨ _ = 0 ∨ (6 + ((yr.length + 1 : Nat) : Int) + 1) ≠ _)
      omega
  have c7 : b2.c.put s = ⟨s.length, s.length, (⟨[], [], t⟩ : Bf).chg ⟨0, [], s⟩, []⟩ := by
    rw [cb2]
    show (⟨0, 0, ⟨[], [], t⟩, []⟩ : Ec).ins s = _
    unfold Ec.ins
    rw [if_neg (by dsimp only; omega)]
    dsimp only
    rw [Nat.zero_add]
  rw [c7] at c6
  refine ⟨a1, a2, a3, b1, b2, _, r1, yr, _, ⟨st1, ?_, st3, st4, st5, st6, by omega, ?_, ?_⟩⟩
  · exact st2
  · rw [c6]
    show [] ++ s ++ t = s ++ t
    rfl
  · rw [c6]
end
section
open Go.RowKit
set_option maxRecDepth 100000
set_option maxHeartbeats 2000000
theorem editorCopies_all (s t : List UInt8) : CallP Tryz.prog 4 [strT s, strT t] (BL true) := by
  have hnewA : ∀ (h : s.length ≤ 200) (hr : rightB s = true), CallP Tryz.prog 9 [I64 1, I64 40, I64 18, strT s] (.tup [edT (newEd 1048576 40 18 s), .islc (newC 1048576 40 18) 6 none, I64 0]) := fun h hr => by
    have := ednew_p 1 1048576 (by omega) 40 18 s (by omega) (by omega) (by omega) (by omega) hr
    rw [newC_eq] at this
    exact this
  have hnewB : ∀ (h : t.length ≤ 200) (hr : rightB t = true), CallP Tryz.prog 9 [I64 1, I64 20, I64 12, strT t] (.tup [edT (newEd 1048576 20 12 t), .islc (newC 1048576 20 12) 6 none, I64 0]) := fun h hr => by
    have := ednew_p 1 1048576 (by omega) 20 12 t (by omega) (by omega) (by omega) (by omega) hr
    rw [newC_eq] at this
    exact this
  have hnpA := newC_pure 1048576 40 18
  have hnpB := newC_pure 1048576 20 12
  have hcr := copyR s t
  generalize newC 1048576 40 18 = ncA at *
  generalize newC 1048576 20 12 = ncB at *
  generalize newEd 1048576 40 18 s = a0 at *
  generalize newEd 1048576 20 12 t = b0 at *
  have hpa0 := ed_pure a0
  have hpb0 := ed_pure b0
  have k1 := key55_p 97 4
  have k2 := key55_p 99 4
  have k3 := key55_p 118 4
  refine CallP.intro2 au_pu au_pu ?_
  refine CallT.intro tab_ok Tryz.func4 rfl (by kernel_rfl) (Nat.le_of_ble_eq_true rfl) ?_
  refine VC.reg tab_ok [] rfl ?_
  refine VX.meek rfl ?_
  refine VX.nil ?_
  refine VC.seq ?_
  refine VC.reg tab_ok [] rfl ?_
  refine VX.callP0 rfl rfl rfl (awake55_p) ?_
  refine VX.meek rfl ?_
  refine VX.nil ?_
  refine VC.condF rfl ?_
  refine VC.skip ?_
  refine VC.seq ?_
  refine VC.reg tab_ok [] rfl ?_
  refine VX.meek rfl ?_
  refine VX.meek (t := I64 (s.length : Nat)) rfl ?_
  iterate 2 refine VX.meek rfl ?_
  refine' VX.merge (d := 27) [_, _, _, _] rfl ?_ rfl ?_
  rotate_left
  · refine VX.guard rfl rfl (fun hb3_3 => ?_) (fun hb3_3 => ?_)
    · have ghb3_3 := hb3_3
      try simp only [au_std, Bool.not_true, Bool.not_false] at ghb3_3
      refine VX.meek rfl ?_
      refine VX.guardT rfl rfl hb3_3 ?_
      refine VX.meek (t := I64 (t.length : Nat)) rfl ?_
      refine VX.guardT rfl rfl hb3_3 ?_
      refine VX.meek rfl ?_
      refine VX.pickO rfl (fun _ => rfl) ?_
      exact VX.nil ⟨rfl, rfl⟩
    · refine VX.guardF rfl rfl hb3_3 ?_
      refine VX.guardF rfl rfl hb3_3 ?_
      exact VX.pickO rfl (fun h => absurd (h.symm.trans hb3_3) (by decide)) (VX.nil ⟨rfl, rfl⟩)
  refine VX.meek rfl ?_
  refine' VX.merge (d := 31) [_, _, _] rfl ?_ rfl ?_
  rotate_left
  · refine VX.guard rfl rfl (fun hb3_8 => ?_) (fun hb3_8 => ?_)
    · have ghb3_8 := hb3_8
      try simp only [au_std, Bool.not_true, Bool.not_false] at ghb3_8
      refine VX.meek rfl ?_
      refine VX.guardT rfl rfl hb3_8 ?_
      refine VX.strEqN (a := s) (b := []) rfl rfl ?_
      refine VX.pickO rfl (fun _ => rfl) ?_
      exact VX.nil ⟨rfl, rfl⟩
    · refine VX.guardF rfl rfl hb3_8 ?_
      exact VX.pickO rfl (fun h => absurd (h.symm.trans hb3_8) (by decide)) (VX.nil ⟨rfl, rfl⟩)
  refine VX.meek rfl ?_
  refine' VX.merge (d := 36) [_, _, _, _] rfl ?_ rfl ?_
  rotate_left
  · refine VX.guard rfl rfl (fun hb3_12 => ?_) (fun hb3_12 => ?_)
    · have ghb3_12 := hb3_12
      try simp only [au_std, Bool.not_true, Bool.not_false] at ghb3_12
      refine VX.meek rfl ?_
      refine VX.guardT rfl rfl hb3_12 ?_
      refine VX.callP0 rfl rfl rfl (right55_p s (by omega)) ?_
      refine VX.guardT rfl rfl hb3_12 ?_
      refine VX.meek rfl ?_
      refine VX.pickO rfl (fun _ => rfl) ?_
      exact VX.nil ⟨rfl, rfl⟩
    · refine VX.guardF rfl rfl hb3_12 ?_
      refine VX.guardF rfl rfl hb3_12 ?_
      exact VX.pickO rfl (fun h => absurd (h.symm.trans hb3_12) (by decide)) (VX.nil ⟨rfl, rfl⟩)
  refine VX.meek rfl ?_
  refine' VX.merge (d := 41) [_, _, _, _] rfl ?_ rfl ?_
  rotate_left
  · refine VX.guard rfl rfl (fun hb3_17 => ?_) (fun hb3_17 => ?_)
    · have ghb3_17 := hb3_17
      try simp only [au_std, Bool.not_true, Bool.not_false] at ghb3_17
      refine VX.meek rfl ?_
      refine VX.guardT rfl rfl hb3_17 ?_
      refine VX.callP0 rfl rfl rfl (right55_p t (by omega)) ?_
      refine VX.guardT rfl rfl hb3_17 ?_
      refine VX.meek rfl ?_
      refine VX.pickO rfl (fun _ => rfl) ?_
      exact VX.nil ⟨rfl, rfl⟩
    · refine VX.guardF rfl rfl hb3_17 ?_
      refine VX.guardF rfl rfl hb3_17 ?_
      exact VX.pickO rfl (fun h => absurd (h.symm.trans hb3_17) (by decide)) (VX.nil ⟨rfl, rfl⟩)
  refine VX.nil ?_
  refine VC.cond rfl (fun hc1 => ?_) (fun hc1 => ?_)
  · (try simp only [au_std] at hc1)
    refine VC.reg tab_ok [] rfl ?_
    refine VX.meek rfl ?_
    refine VX.nil ?_
    refine VC.ret ?_
    exact ⟨trivial, _, rfl, Cv.eq (by first | rfl | (simp [*]; done)) rfl⟩
  · (try simp only [au_std] at hc1); obtain ⟨⟨⟨⟨h1, h2⟩, h3⟩, h4⟩, h5⟩ := hc1; have hA := hnewA (by omega) h4; have hB := hnewB (by omega) h5; obtain ⟨a1, a2, a3, b1, b2, b3, r1, yr, r6, R⟩ := hcr (by simpa using h3) (by omega) (by omega) h4; obtain ⟨s1, s2, s3, s4, s5, s6, hyl, htx, hcu⟩ := R
    have hpa1 := ed_pure a1
    have hpa2 := ed_pure a2
    have hpa3 := ed_pure a3
    have hpb1 := ed_pure b1
    have hpb2 := ed_pure b2
    have hpb3 := ed_pure b3
    have hpr1 := encL_pure cRq r1
    have hpr6 := encL_pure cRq r6
    have hpyr := encL_pure cRq yr
    have hrep := reply_p (6 + ((yr.length + 1 : Nat) : Int) + 1) s (by omega)
    have hprp := ot_pure (repO (6 + ((yr.length + 1 : Nat) : Int) + 1) s)
    have htb := text_p b3
    have hcb := curs_p b3
    rw [htx] at htb
    rw [hcu] at hcb
    have hpbs := encL_pure cI (s.map fun b => (b.toNat : Int))
    have hml : (s.map fun b => (b.toNat : Int)).length = s.length := List.length_map ..
    have hcs : encL cRq (⟨52, [1048577, 3, 4, 9, 5], [], []⟩ :: yr) = [I64 52, cIf [1048577, 3, 4, 9, 5], strT [], cIf []] ++ encL cRq yr := rfl
    change CallP _ _ _ (.tup [edT b1, .islc ([I64 52, cIf [1048577, 3, 4, 9, 5], strT [], cIf []] ++ encL cRq yr) (yr.length + 1) none]) at s3
    clear hnewA hnewB hcr hcs
    refine VC.skip ?_
    refine VC.reg tab_ok [] rfl ?_
    refine VX.meek rfl ?_
    refine VX.callP0 rfl rfl rfl (hA) ?_
    iterate 4 refine VX.meek rfl ?_
    refine VX.new rfl rfl ?_
    refine VX.store rfl rfl rfl rfl rfl au_s rfl ?_
    iterate 2 refine VX.meek rfl ?_
    refine VX.nil ?_
    refine VC.reg tab_ok [] rfl ?_
    refine VX.meek rfl ?_
    refine VX.callP0 rfl rfl rfl (hB) ?_
    iterate 4 refine VX.meek rfl ?_
    refine VX.new rfl rfl ?_
    refine VX.store rfl rfl rfl rfl rfl au_s rfl ?_
    iterate 2 refine VX.meek rfl ?_
    refine VX.nil ?_
    refine VC.view ([(5, .ptr 0 0), (8, .ptr 1 0)]) ([.c (edC a0), .c (edC b0)]) [0, 1, 7, 9, 10] rfl (by refine ⟨[some 0, some 1], rfl, by first | trivial | decide, by first | rfl | (simp only [noO, Bool.and_true, Bool.and_eq_true]; first | assumption | (refine ⟨?_, ?_⟩ <;> assumption)) | (simp only [noO, *, Bool.and_true, Bool.true_and, Bool.and_self]; done), ?_, ?_⟩ <;> (repeat' first | exact trivial | exact CvB_n | exact CvB_d | exact CvB_o rfl | refine CvE_app ?_ ?_ | refine CvE_cons rfl ?_ ?_ | refine CvH_cons ?_ ?_ | refine CvB_c rfl ?_ | fail) <;> first | exact au_v | (first | exact CvL.eq rfl hpa0 | exact CvL.eq rfl hpb0 | exact Cv.pure (by simp only [T.pure, hnpA]) | exact Cv.pure (by simp only [T.pure, hnpB]))) ?_
    refine VC.seq ?_
    refine VC.reg tab_ok [] rfl ?_
    iterate 3 refine VX.meek rfl ?_
    refine' VX.merge (d := 59) [_, _, _] rfl ?_ rfl ?_
    rotate_left
    · refine VX.guard rfl rfl (fun hb7_2 => ?_) (fun hb7_2 => ?_)
      · have ghb7_2 := hb7_2
        try simp only [au_std, Bool.not_true, Bool.not_false] at ghb7_2
        refine VX.meek rfl ?_
        refine VX.guardT rfl rfl hb7_2 ?_
        refine VX.meek rfl ?_
        refine VX.pickO rfl (fun _ => rfl) ?_
        exact VX.nil ⟨rfl, rfl⟩
      · refine VX.guardF rfl rfl hb7_2 ?_
        exact VX.pickO rfl (fun h => absurd (h.symm.trans hb7_2) (by decide)) (VX.nil ⟨rfl, rfl⟩)
    refine VX.nil ?_
    refine VC.condF rfl ?_
    refine VC.skip ?_
    refine VC.reg tab_ok [] rfl ?_
    iterate 3 refine VX.meek rfl ?_
    refine VX.nil ?_
    refine VC.drwT tab_ok [] [_, _, _, _, _, _, _] [true, true, true, true, true, false, false] rfl (by kernel_rfl) (by kernel_rfl) (by kernel_rfl) (by kernel_rfl) ?_
    refine VT.seg true (l1 := [_, _, _, _, _]) rfl ?_
    first | refine VX.meek rfl ?_ | refine VX.loadI rfl rfl au_l ?_ | refine VX.loadP rfl rfl rfl au_l ?_
    refine VX.callP0 rfl rfl rfl (k1) ?_
    refine VX.callP0 rfl rfl rfl (s1) ?_
    iterate 2 refine VX.meek rfl ?_
    refine VX.nil ⟨rfl, ?_⟩
    refine VT.seg false (l1 := [_]) rfl ?_
    refine VX.meek rfl ?_
    refine VX.nil ⟨rfl, ?_⟩
    refine VT.sto rfl rfl rfl rfl ?_
    refine VT.nil (⟨Nat.le_of_ble_eq_true rfl, rfl, trivial⟩) ⟨rfl, ?_⟩
    refine VX.nil ?_
    refine VC.view ([(5, .ptr 0 0), (8, .ptr 1 0)]) ([.c (edC a1), .c (edC b0)]) [0, 1, 11] rfl (by refine ⟨[some 0, some 1], rfl, by first | trivial | decide, by first | rfl | (simp only [noO, Bool.and_true, Bool.and_eq_true]; first | assumption | (refine ⟨?_, ?_⟩ <;> assumption)) | (simp only [noO, *, Bool.and_true, Bool.true_and, Bool.and_self]; done), ?_, ?_⟩ <;> (repeat' first | exact trivial | exact CvB_n | exact CvB_d | exact CvB_o rfl | refine CvE_app ?_ ?_ | refine CvE_cons rfl ?_ ?_ | refine CvH_cons ?_ ?_ | refine CvB_c rfl ?_ | fail) <;> first | exact au_v | (first | exact CvL.eq rfl hpa1 | exact CvL.pure hpb0)) ?_
    refine VC.drwT tab_ok [] [_, _, _, _, _, _, _] [true, true, true, true, true, false, false] rfl (by kernel_rfl) (by kernel_rfl) (by kernel_rfl) (by kernel_rfl) ?_
    refine VT.seg true (l1 := [_, _, _, _, _]) rfl ?_
    first | refine VX.meek rfl ?_ | refine VX.loadI rfl rfl au_l ?_ | refine VX.loadP rfl rfl rfl au_l ?_
    refine VX.callP0 rfl rfl rfl (k2) ?_
    refine VX.callP0 rfl rfl rfl (s2) ?_
    iterate 2 refine VX.meek rfl ?_
    refine VX.nil ⟨rfl, ?_⟩
    refine VT.seg false (l1 := [_]) rfl ?_
    refine VX.meek rfl ?_
    refine VX.nil ⟨rfl, ?_⟩
    refine VT.sto rfl rfl rfl rfl ?_
    refine VT.nil (⟨Nat.le_of_ble_eq_true rfl, rfl, trivial⟩) ⟨rfl, ?_⟩
    refine VX.meek rfl ?_
    refine VX.nil ?_
    refine VC.view ([(5, .ptr 0 0), (8, .ptr 1 0)]) ([.c (edC a2), .c (edC b0)]) [0, 1, 11, 12] rfl (by refine ⟨[some 0, some 1], rfl, by first | trivial | decide, by first | rfl | (simp only [noO, Bool.and_true, Bool.and_eq_true]; first | assumption | (refine ⟨?_, ?_⟩ <;> assumption)) | (simp only [noO, *, Bool.and_true, Bool.true_and, Bool.and_self]; done), ?_, ?_⟩ <;> (repeat' first | exact trivial | exact CvB_n | exact CvB_d | exact CvB_o rfl | refine CvE_app ?_ ?_ | refine CvE_cons rfl ?_ ?_ | refine CvH_cons ?_ ?_ | refine CvB_c rfl ?_ | fail) <;> first | exact au_v | (first | exact CvL.eq rfl hpa2 | exact CvL.pure hpb0)) ?_
    refine VC.drwT tab_ok [] [_, _, _, _, _, _, _] [true, true, true, true, true, false, false] rfl (by kernel_rfl) (by kernel_rfl) (by kernel_rfl) (by kernel_rfl) ?_
    refine VT.seg true (l1 := [_, _, _, _, _]) rfl ?_
    first | refine VX.meek rfl ?_ | refine VX.loadI rfl rfl au_l ?_ | refine VX.loadP rfl rfl rfl au_l ?_
    refine VX.callP0 rfl rfl rfl (k3) ?_
    refine VX.callP0 rfl rfl rfl (s3) ?_
    iterate 2 refine VX.meek rfl ?_
    refine VX.nil ⟨rfl, ?_⟩
    refine VT.seg false (l1 := [_]) rfl ?_
    refine VX.meek rfl ?_
    refine VX.nil ⟨rfl, ?_⟩
    refine VT.sto rfl rfl rfl rfl ?_
    refine VT.nil (⟨Nat.le_of_ble_eq_true rfl, rfl, trivial⟩) ⟨rfl, ?_⟩
    refine VX.meek rfl ?_
    refine VX.nil ?_
    refine VC.view ([(5, .ptr 0 0), (8, .ptr 1 0)]) ([.c (edC a2), .c (edC b1)]) [0, 1, 11, 12, 13] rfl (by refine ⟨[some 0, some 1], rfl, by first | trivial | decide, by first | rfl | (simp only [noO, Bool.and_true, Bool.and_eq_true]; first | assumption | (refine ⟨?_, ?_⟩ <;> assumption)) | (simp only [noO, *, Bool.and_true, Bool.true_and, Bool.and_self]; done), ?_, ?_⟩ <;> (repeat' first | exact trivial | exact CvB_n | exact CvB_d | exact CvB_o rfl | refine CvE_app ?_ ?_ | refine CvE_cons rfl ?_ ?_ | refine CvH_cons ?_ ?_ | refine CvB_c rfl ?_ | fail) <;> first | exact au_v | (first | exact CvL.eq rfl hpb1 | exact CvL.pure hpa2 | exact Cv.pure (by simp only [T.pure, T.pureL, pureL_app, encL_pure, hpyr, Bool.and_self]))) ?_
    refine VC.reg tab_ok [] rfl ?_
    iterate 3 refine VX.meek rfl ?_
    refine VX.add (a := 6) (b := ((yr.length + 1 : Nat) : Int)) rfl rfl (by omega) ?_
    refine VX.meek rfl ?_
    refine VX.nil ?_
    refine VC.seq ?_
    refine VC.reg tab_ok [] rfl ?_
    iterate 4 refine VX.meek rfl ?_
    refine' VX.merge (d := 96) [_, _, _, _, _, _, _, _, _] rfl ?_ rfl ?_
    rotate_left
    · refine VX.guard rfl rfl (fun hb14_3 => ?_) (fun hb14_3 => ?_)
      · have ghb14_3 := hb14_3
        try simp only [au_std, Bool.not_true, Bool.not_false] at ghb14_3
        refine VX.meek rfl ?_
        refine VX.guardT rfl rfl hb14_3 ?_
        refine VX.meek rfl ?_
        refine VX.guardT rfl rfl hb14_3 ?_
        refine VX.meek rfl ?_
        refine VX.guardT rfl rfl hb14_3 ?_
        first | refine VX.sub rfl rfl (by omega) ?_ | refine VX.meek rfl ?_
        refine VX.guardT rfl rfl hb14_3 ?_
        refine VX.idxI (m := 0) rfl rfl rfl rfl rfl rfl (by simp) ?_
        refine VX.guardT rfl rfl hb14_3 ?_
        refine VX.meek rfl ?_
        refine VX.guardT rfl rfl hb14_3 ?_
        refine VX.loadI (v := I64 50) rfl rfl rfl ?_
        refine VX.guardT rfl rfl hb14_3 ?_
        refine VX.meek rfl ?_
        refine VX.pickO rfl (fun _ => rfl) ?_
        exact VX.nil ⟨rfl, rfl⟩
      · refine VX.guardF rfl rfl hb14_3 ?_
        iterate 6 refine VX.guardF rfl rfl hb14_3 ?_
        exact VX.pickO rfl (fun h => absurd (h.symm.trans hb14_3) (by decide)) (VX.nil ⟨rfl, rfl⟩)
    refine VX.meek rfl ?_
    refine' VX.merge (d := 101) [_, _, _, _] rfl ?_ rfl ?_
    rotate_left
    · refine VX.guard rfl rfl (fun hb14_13 => ?_) (fun hb14_13 => ?_)
      · have ghb14_13 := hb14_13
        try simp only [au_std, Bool.not_true, Bool.not_false] at ghb14_13
        refine VX.meek rfl ?_
        refine VX.guardT rfl rfl hb14_13 ?_
        refine VX.meek rfl ?_
        refine VX.guardT rfl rfl hb14_13 ?_
        refine VX.meek rfl ?_
        refine VX.pickO rfl (fun _ => rfl) ?_
        exact VX.nil ⟨rfl, rfl⟩
      · refine VX.guardF rfl rfl hb14_13 ?_
        refine VX.guardF rfl rfl hb14_13 ?_
        exact VX.pickO rfl (fun h => absurd (h.symm.trans hb14_13) (by decide)) (VX.nil ⟨rfl, rfl⟩)
    refine VX.meek rfl ?_
    refine' VX.merge (d := 108) [_, _, _, _, _, _] rfl ?_ rfl ?_
    rotate_left
    · refine VX.guard rfl rfl (fun hb14_18 => ?_) (fun hb14_18 => ?_)
      · have ghb14_18 := hb14_18
        try simp only [au_std, Bool.not_true, Bool.not_false] at ghb14_18
        refine VX.meek rfl ?_
        refine VX.guardT rfl rfl hb14_18 ?_
        refine VX.idxI (m := 0) rfl rfl rfl rfl rfl rfl (by omega) ?_
        refine VX.guardT rfl rfl hb14_18 ?_
        refine VX.meek rfl ?_
        refine VX.guardT rfl rfl hb14_18 ?_
        refine VX.loadI (v := I64 52) rfl rfl rfl ?_
        refine VX.guardT rfl rfl hb14_18 ?_
        refine VX.meek rfl ?_
        refine VX.pickO rfl (fun _ => rfl) ?_
        exact VX.nil ⟨rfl, rfl⟩
      · refine VX.guardF rfl rfl hb14_18 ?_
        iterate 3 refine VX.guardF rfl rfl hb14_18 ?_
        exact VX.pickO rfl (fun h => absurd (h.symm.trans hb14_18) (by decide)) (VX.nil ⟨rfl, rfl⟩)
    refine VX.nil ?_
    refine VC.cond rfl (fun hc3 => ?_) (fun hc3 => ?_)
    · (try simp only [au_std] at hc3); simp at hc3; omega
    · (try simp only [au_std] at hc3)
      refine VC.skip ?_
      refine VC.reg tab_ok [111] rfl ?_
      first | refine VX.meek rfl ?_ | refine VX.loadI rfl rfl au_l ?_ | refine VX.loadP rfl rfl rfl au_l ?_
      refine VX.newI rfl rfl ?_
      refine VX.meek (t := .agg [I64 2, I64 23, I64 0, .islc [I64 1048577, I64 99, I64 3, I64 4, I64 9, I64 5] 6 (some 6), strT [], NIL]) rfl ?_
      refine VX.callP rfl rfl s4 au_wk (by simp [T.pureL, T.pure, encL_pure]) ?_
      iterate 3 refine VX.meek rfl ?_
      refine VX.new rfl rfl ?_
      refine VX.store rfl rfl rfl rfl rfl au_s rfl ?_
      refine VX.meek rfl ?_
      refine VX.nil ?_
      refine VC.view ([(5, .ptr 0 0), (8, .ptr 1 0)]) ([.c (edC a2), .c (edC b1)]) [0, 1, 11, 15] rfl (by refine ⟨[some 0, some 1], rfl, by first | trivial | decide, by first | rfl | (simp only [noO, Bool.and_true, Bool.and_eq_true]; first | assumption | (refine ⟨?_, ?_⟩ <;> assumption)) | (simp only [noO, *, Bool.and_true, Bool.true_and, Bool.and_self]; done), ?_, ?_⟩ <;> (repeat' first | exact trivial | exact CvB_n | exact CvB_d | exact CvB_o rfl | refine CvE_app ?_ ?_ | refine CvE_cons rfl ?_ ?_ | refine CvH_cons ?_ ?_ | refine CvB_c rfl ?_ | fail) <;> first | exact au_v | (first | exact CvL.pure hpb1 | exact CvL.pure hpa2)) ?_
      refine VC.seq ?_
      refine VC.reg tab_ok [] rfl ?_
      iterate 4 refine VX.meek rfl ?_
      refine' VX.merge (d := 125) [_, _, _, _, _, _] rfl ?_ rfl ?_
      rotate_left
      · refine VX.guard rfl rfl (fun hb17_3 => ?_) (fun hb17_3 => ?_)
        · have ghb17_3 := hb17_3
          try simp only [au_std, Bool.not_true, Bool.not_false] at ghb17_3
          refine VX.meek rfl ?_
          refine VX.guardT rfl rfl hb17_3 ?_
          refine VX.idxI (m := 0) rfl rfl rfl rfl rfl rfl (by simp) ?_
          refine VX.guardT rfl rfl hb17_3 ?_
          refine VX.meek rfl ?_
          refine VX.guardT rfl rfl hb17_3 ?_
          refine VX.loadI (v := I64 13) rfl rfl rfl ?_
          refine VX.guardT rfl rfl hb17_3 ?_
          refine VX.meek rfl ?_
          refine VX.pickO rfl (fun _ => rfl) ?_
          exact VX.nil ⟨rfl, rfl⟩
        · refine VX.guardF rfl rfl hb17_3 ?_
          iterate 3 refine VX.guardF rfl rfl hb17_3 ?_
          exact VX.pickO rfl (fun h => absurd (h.symm.trans hb17_3) (by decide)) (VX.nil ⟨rfl, rfl⟩)
      refine VX.meek rfl ?_
      refine' VX.merge (d := 135) [_, _, _, _, _, _, _, _, _] rfl ?_ rfl ?_
      rotate_left
      · refine VX.guard rfl rfl (fun hb17_10 => ?_) (fun hb17_10 => ?_)
        · have ghb17_10 := hb17_10
          try simp only [au_std, Bool.not_true, Bool.not_false] at ghb17_10
          refine VX.meek rfl ?_
          refine VX.guardT rfl rfl hb17_10 ?_
          refine VX.idxI (m := 0) rfl rfl rfl rfl rfl rfl (by simp) ?_
          refine VX.guardT rfl rfl hb17_10 ?_
          refine VX.meek rfl ?_
          refine VX.guardT rfl rfl hb17_10 ?_
          refine VX.loadI (v := cIf (s.map fun b => (b.toNat : Int))) rfl rfl rfl ?_
          refine VX.guardT rfl rfl hb17_10 ?_
          refine VX.meek (t := I64 (s.length : Nat)) (by show some (I64 ((s.map fun b => (b.toNat : Int)).length : Nat), (none : Option (Nat × List T))) = _; rw [hml]) ?_
          refine VX.guardT rfl rfl hb17_10 ?_
          refine VX.meek rfl ?_
          refine VX.guardT rfl rfl hb17_10 ?_
          refine VX.meek (t := I64 (s.length : Nat)) rfl ?_
          refine VX.guardT rfl rfl hb17_10 ?_
          refine VX.meek rfl ?_
          refine VX.pickO rfl (fun _ => rfl) ?_
          exact VX.nil ⟨rfl, rfl⟩
        · refine VX.guardF rfl rfl hb17_10 ?_
          iterate 6 refine VX.guardF rfl rfl hb17_10 ?_
          exact VX.pickO rfl (fun h => absurd (h.symm.trans hb17_10) (by decide)) (VX.nil ⟨rfl, rfl⟩)
      refine VX.meek rfl ?_
      refine' VX.merge (d := 142) [_, _, _, _, _, _] rfl ?_ rfl ?_
      rotate_left
      · refine VX.guard rfl rfl (fun hb17_20 => ?_) (fun hb17_20 => ?_)
        · have ghb17_20 := hb17_20
          try simp only [au_std, Bool.not_true, Bool.not_false] at ghb17_20
          refine VX.meek rfl ?_
          refine VX.guardT rfl rfl hb17_20 ?_
          refine VX.idxI (m := 1) rfl rfl rfl rfl rfl rfl (by simp) ?_
          refine VX.guardT rfl rfl hb17_20 ?_
          refine VX.meek rfl ?_
          refine VX.guardT rfl rfl hb17_20 ?_
          refine VX.loadI (v := I64 53) rfl rfl rfl ?_
          refine VX.guardT rfl rfl hb17_20 ?_
          refine VX.meek rfl ?_
          refine VX.pickO rfl (fun _ => rfl) ?_
          exact VX.nil ⟨rfl, rfl⟩
        · refine VX.guardF rfl rfl hb17_20 ?_
          iterate 3 refine VX.guardF rfl rfl hb17_20 ?_
          exact VX.pickO rfl (fun h => absurd (h.symm.trans hb17_20) (by decide)) (VX.nil ⟨rfl, rfl⟩)
      refine VX.nil ?_
      refine VC.cond rfl (fun hc4 => ?_) (fun hc4 => ?_)
      · (try simp only [au_std] at hc4); simp at hc4
      · (try simp only [au_std] at hc4)
        refine VC.skip ?_
        refine VC.seq ?_
        refine VC.reg tab_ok [] rfl ?_
        refine VX.meek rfl ?_
        refine VX.nil ?_
        refine VC.block ?_
        refine VC.loopS (σ := Nat) (fun i => s.length - i) (fun i => i ≤ s.length) (fun i => [(16, I64 (i : Nat)), (8, .ptr 0 0)]) (fun i => [.c (edC b1)]) [0, 1, 11, 15] rfl (0) ?_ ?_ ?_
        · refine ⟨[some 1], rfl, by first | trivial | decide, by first | rfl | (simp only [noO, Bool.and_true, Bool.and_eq_true]; first | assumption | (refine ⟨?_, ?_⟩ <;> assumption)) | (simp only [noO, *, Bool.and_true, Bool.true_and, Bool.and_self]; done), ?_, ?_⟩ <;> (repeat' first | exact trivial | exact CvB_n | exact CvB_d | exact CvB_o rfl | refine CvE_app ?_ ?_ | refine CvE_cons rfl ?_ ?_ | refine CvH_cons ?_ ?_ | refine CvB_c rfl ?_ | fail) <;> first | exact au_v | (first | exact CvL.pure hpb1 | exact CvL.pure rfl)
        · (try dsimp only); omega
        rintro i hi
        refine VC.seq ?_
        refine VC.reg tab_ok [] rfl ?_
        iterate 2 refine VX.meek rfl ?_
        refine VX.meek (t := I64 (s.length : Nat)) rfl ?_
        refine VX.meek rfl ?_
        refine VX.nil ?_
        refine VC.cond rfl (fun hc5 => ?_) (fun hc5 => ?_)
        · (try simp only [au_std] at hc5); have hil : i < s.length := (by omega); have hat := getB hil; have hbt := s[i]!.toNat_lt; have hbi : (s.map fun b => (b.toNat : Int))[i]? = some (s[i]!.toNat : Int) := (by rw [List.getElem?_map, hat]; rfl)
          refine VC.skip ?_
          refine VC.seq ?_
          refine VC.block ?_
          refine VC.drw tab_ok [] [_, _, _, _, _, _, _, _, _, _, _, _] rfl (by kernel_rfl) (by kernel_rfl) ?_
          refine VX.meek rfl ?_
          refine VX.idxI (m := 0) rfl rfl rfl rfl rfl rfl (by simp) ?_
          refine VX.meek rfl ?_
          refine VX.loadI (v := cIf (s.map fun b => (b.toNat : Int))) rfl rfl rfl ?_
          refine VX.meek rfl ?_
          refine VX.idxI (m := i) rfl rfl rfl rfl rfl rfl (by rw [hml]; exact hil) ?_
          refine VX.loadI rfl rfl (encL_part0 cI (m := i) (a := (s[i]!.toNat : Int)) hbi (by decide) rfl) ?_
          iterate 2 refine VX.meek rfl ?_
          refine VX.idxY rfl rfl rfl rfl rfl hat ?_
          refine VX.meek (t := I64 (s[i]!.toNat : Nat)) (by show some (T.v (.int .i64 (IntKind.i64.wrap (s[i]!.toNat : Int))), (none : Option (Nat × List T))) = _; rw [wrap_in (by omega)]) ?_
          refine VX.meek rfl ?_
          iterate 2 refine VX.nil ?_
          refine VC.cond rfl (fun hc6 => ?_) (fun hc6 => ?_)
          · (try simp only [au_std] at hc6); exact absurd trivial hc6
          · (try simp only [au_std] at hc6)
            refine VC.skip ?_
            refine VC.regN tab_ok [] rfl ?_
            refine VX.meek rfl ?_
            first | refine VX.add rfl rfl (by omega) ?_ | refine VX.meek rfl ?_
            refine VX.meek rfl ?_
            refine VX.nil ?_
            refine ⟨i + 1, by (try dsimp only); omega, ?_, (by refine ⟨[some 0], rfl, by first | trivial | decide, by first | rfl | (simp only [noO, Bool.and_true, Bool.and_eq_true]; first | assumption | (refine ⟨?_, ?_⟩ <;> assumption)) | (simp only [noO, *, Bool.and_true, Bool.true_and, Bool.and_self]; done), ?_, ?_⟩ <;> (repeat' first | exact trivial | exact CvB_n | exact CvB_d | exact CvB_o rfl | refine CvE_app ?_ ?_ | refine CvE_cons rfl ?_ ?_ | refine CvH_cons ?_ ?_ | refine CvB_c rfl ?_ | fail) <;> first | exact au_v | (first | exact CvL.pure hpb1 | exact CvL.pure rfl))⟩
            (try dsimp only); omega
        · (try simp only [au_std] at hc5); skip
          refine VC.exit ?_
          refine VC.reg tab_ok [163] rfl ?_
          first | refine VX.meek rfl ?_ | refine VX.loadI rfl rfl au_l ?_ | refine VX.loadP rfl rfl rfl au_l ?_
          refine VX.newI rfl rfl ?_
          refine VX.meek (t := .agg [I64 2, I64 24, I64 0, .islc [I64 1048577, I64 3, I64 4, I64 9, I64 5] 5 (some 5), strT [], NIL]) rfl ?_
          refine VX.callP rfl rfl s5 au_wk (by simp [T.pureL, T.pure, encL_pure]) ?_
          iterate 3 refine VX.meek rfl ?_
          refine VX.store rfl rfl rfl rfl rfl au_s rfl ?_
          refine VX.meek rfl ?_
          refine VX.nil ?_
          refine VC.view ([(8, .ptr 0 0)]) ([.c (edC b2)]) [0, 1, 11, 17] rfl (by refine ⟨[some 0], rfl, by first | trivial | decide, by first | rfl | (simp only [noO, Bool.and_true, Bool.and_eq_true]; first | assumption | (refine ⟨?_, ?_⟩ <;> assumption)) | (simp only [noO, *, Bool.and_true, Bool.true_and, Bool.and_self]; done), ?_, ?_⟩ <;> (repeat' first | exact trivial | exact CvB_n | exact CvB_d | exact CvB_o rfl | refine CvE_app ?_ ?_ | refine CvE_cons rfl ?_ ?_ | refine CvH_cons ?_ ?_ | refine CvB_c rfl ?_ | fail) <;> first | exact au_v | (first | exact CvL.eq rfl hpb2)) ?_
          refine VC.seq ?_
          refine VC.reg tab_ok [] rfl ?_
          iterate 4 refine VX.meek rfl ?_
          refine' VX.merge (d := 177) [_, _, _, _, _, _] rfl ?_ rfl ?_
          rotate_left
          · refine VX.guard rfl rfl (fun hb25_3 => ?_) (fun hb25_3 => ?_)
            · have ghb25_3 := hb25_3
              try simp only [au_std, Bool.not_true, Bool.not_false] at ghb25_3
              refine VX.meek rfl ?_
              refine VX.guardT rfl rfl hb25_3 ?_
              refine VX.idxI (m := 0) rfl rfl rfl rfl rfl rfl (by simp) ?_
              refine VX.guardT rfl rfl hb25_3 ?_
              refine VX.meek rfl ?_
              refine VX.guardT rfl rfl hb25_3 ?_
              refine VX.loadI (v := I64 15) rfl rfl rfl ?_
              refine VX.guardT rfl rfl hb25_3 ?_
              refine VX.meek rfl ?_
              refine VX.pickO rfl (fun _ => rfl) ?_
              exact VX.nil ⟨rfl, rfl⟩
            · refine VX.guardF rfl rfl hb25_3 ?_
              iterate 3 refine VX.guardF rfl rfl hb25_3 ?_
              exact VX.pickO rfl (fun h => absurd (h.symm.trans hb25_3) (by decide)) (VX.nil ⟨rfl, rfl⟩)
          refine VX.nil ?_
          refine VC.cond rfl (fun hc7 => ?_) (fun hc7 => ?_)
          · (try simp only [au_std] at hc7); simp at hc7
          · (try simp only [au_std] at hc7)
            refine VC.skip ?_
            refine VC.drwT tab_ok [] [_, _, _, _, _, _, _, _, _, _] [true, true, true, true, true, true, true, true, false, false] rfl (by kernel_rfl) (by kernel_rfl) (by kernel_rfl) (by kernel_rfl) ?_
            refine VT.seg true (l1 := [_, _, _, _, _, _, _, _]) rfl ?_
            first | refine VX.meek rfl ?_ | refine VX.loadI rfl rfl au_l ?_ | refine VX.loadP rfl rfl rfl au_l ?_
            refine VX.meek rfl ?_
            refine VX.add (a := 6 + ((yr.length + 1 : Nat) : Int)) (b := 1) rfl rfl (by omega) ?_
            refine VX.meek rfl ?_
            refine VX.callP0 rfl rfl rfl (hrep) ?_
            refine VX.callP0 rfl rfl rfl (s6) ?_
            iterate 2 refine VX.meek rfl ?_
            refine VX.nil ⟨rfl, ?_⟩
            refine VT.seg false (l1 := [_]) rfl ?_
            refine VX.meek rfl ?_
            refine VX.nil ⟨rfl, ?_⟩
            refine VT.sto rfl rfl rfl rfl ?_
            refine VT.nil (⟨Nat.le_of_ble_eq_true rfl, rfl, trivial⟩) ⟨rfl, ?_⟩
            refine VX.nil ?_
            refine VC.view ([(8, .ptr 0 0)]) ([.c (edC b3)]) [0, 1] rfl (by refine ⟨[some 0], rfl, by first | trivial | decide, by first | rfl | (simp only [noO, Bool.and_true, Bool.and_eq_true]; first | assumption | (refine ⟨?_, ?_⟩ <;> assumption)) | (simp only [noO, *, Bool.and_true, Bool.true_and, Bool.and_self]; done), ?_, ?_⟩ <;> (repeat' first | exact trivial | exact CvB_n | exact CvB_d | exact CvB_o rfl | refine CvE_app ?_ ?_ | refine CvE_cons rfl ?_ ?_ | refine CvH_cons ?_ ?_ | refine CvB_c rfl ?_ | fail) <;> first | exact au_v | (first | exact CvL.eq rfl hpb3)) ?_
            refine VC.reg tab_ok [] rfl ?_
            first | refine VX.meek rfl ?_ | refine VX.loadI rfl rfl au_l ?_ | refine VX.loadP rfl rfl rfl au_l ?_
            refine VX.callP0 rfl rfl rfl (htb) ?_
            iterate 2 refine VX.meek rfl ?_
            refine VX.strCat (a := s) (b := t) rfl rfl (by omega) ?_
            refine VX.strEqN (a := s ++ t) (b := s ++ t) rfl rfl ?_; rw [beq_self_eq_true]
            refine VX.meek rfl ?_
            refine' VX.merge (d := 199) [_, _, _, _, _, _] rfl ?_ rfl ?_
            rotate_left
            · refine VX.guard rfl rfl (fun hb28_6 => ?_) (fun hb28_6 => ?_)
              · have ghb28_6 := hb28_6
                try simp only [au_std, Bool.not_true, Bool.not_false] at ghb28_6
                first | refine VX.meek rfl ?_ | refine VX.loadI rfl rfl au_l ?_ | refine VX.loadP rfl rfl rfl au_l ?_
                refine VX.guardT rfl rfl hb28_6 ?_
                refine VX.callP0 rfl rfl rfl (hcb) ?_
                refine VX.guardT rfl rfl hb28_6 ?_
                refine VX.meek rfl ?_
                refine VX.guardT rfl rfl hb28_6 ?_
                refine VX.meek (t := I64 (s.length : Nat)) rfl ?_
                refine VX.guardT rfl rfl hb28_6 ?_
                refine VX.meek rfl ?_
                refine VX.pickA rfl (fun _ => rfl) ?_
                exact VX.nil ⟨rfl, rfl⟩
              · refine VX.guardF rfl rfl hb28_6 ?_
                iterate 3 refine VX.guardF rfl rfl hb28_6 ?_
                exact VX.pickA rfl (fun h => absurd (h.symm.trans hb28_6) (by decide)) (VX.nil ⟨rfl, rfl⟩)
            refine VX.meek rfl ?_
            refine VX.nil ?_
            refine VC.ret ?_
            exact ⟨trivial, _, rfl, Cv.eq (by first | rfl | (simp [*]; done)) rfl⟩
end
section
open Go.RowKit
abbrev shEI : Sh := .int .i64
abbrev shEU : Sh := .int .u8
abbrev shOut : Sh := .st [shEI, shEI, shEI, .sl shEI, .str, .sl shEI]
theorem wtE_i64 {ts : List T} (h : shEI.wt ts) : ∃ n, ts = [I64 n] ∧ (-9223372036854775808 ≤ n ∧ n ≤ 9223372036854775807) := by
  obtain ⟨n, rfl, hw⟩ := h
  refine ⟨n, rfl, ?_⟩
  simp [Lit.wf, IntKind.min, IntKind.max, IntKind.signed, IntKind.bits] at hw
  omega
theorem wtE_u8 {ts : List T} (h : shEU.wt ts) : ∃ n, ts = [U8 n] ∧ 0 ≤ n ∧ n < 256 := by
  obtain ⟨n, rfl, hw⟩ := h
  refine ⟨n, rfl, ?_⟩
  simp [Lit.wf, IntKind.min, IntKind.max, IntKind.signed, IntKind.bits] at hw
  omega
theorem nthE_dec {α : Type} (c : Cd α) {p : List T → Prop} {Q : α → Prop} (h : ∀ a, p a → ∃ x, a = c.cells x ∧ Q x) : ∀ (n : Nat) {xs : List T}, nth p n xs → ∃ l : List α, xs = encL c l ∧ l.length = n ∧ ∀ x ∈ l, Q x
  | 0, xs, k => ⟨[], k, rfl, fun _ hx => by cases hx⟩
  | n + 1, xs, ⟨a, b, e, k1, k2⟩ => by
    obtain ⟨x, rfl, hx⟩ := h a k1
    obtain ⟨l, rfl, rfl, hl⟩ := nthE_dec c h n k2
    exact ⟨x :: l, e, rfl, fun y hy => by
      rcases List.mem_cons.1 hy with rfl | hy
      · exact hx
      · exact hl y hy⟩
theorem wtE_sl {α : Type} (c : Cd α) {s : Sh} {Q : α → Prop} (h : ∀ a, s.wt a → ∃ x, a = c.cells x ∧ Q x) {ts : List T} (k : (Sh.sl s).wt ts) : ∃ l : List α, ts = [.islc (encL c l) l.length none] ∧ l.length ≤ maxLen ∧ ∀ x ∈ l, Q x := by
  obtain ⟨xs, n, rfl, h1, h2⟩ := k
  obtain ⟨l, rfl, rfl, hl⟩ := nthE_dec c h n h2
  exact ⟨l, rfl, h1, hl⟩
theorem wtE_ints {ts : List T} (h : (Sh.sl shEI).wt ts) : ∃ l : List Int, ts = [cIf l] := by
  obtain ⟨l, h1, -, -⟩ := wtE_sl cI (Q := fun _ => True) (fun a k => by obtain ⟨n, e, -⟩ := wtE_i64 k; exact ⟨n, e, trivial⟩) h
  exact ⟨l, h1⟩
theorem wtE_out {ts : List T} (h : shOut.wt ts) : ∃ o : Ot, ts = cOt.cells o := by
  obtain ⟨a1, b1, rfl, k1, a2, b2, rfl, k2, a3, b3, rfl, k3, a4, b4, rfl, k4, a5, b5, rfl, k5, a6, b6, rfl, k6, rfl⟩ := h
  obtain ⟨n1, rfl, -⟩ := wtE_i64 k1
  obtain ⟨n2, rfl, -⟩ := wtE_i64 k2
  obtain ⟨n3, rfl, -⟩ := wtE_i64 k3
  obtain ⟨n4, rfl⟩ := wtE_ints k4
  obtain ⟨n5, rfl, -⟩ := wtE_str k5
  obtain ⟨n6, rfl⟩ := wtE_ints k6
  exact ⟨⟨n1, n2, n3, n4, n5, n6⟩, rfl⟩
theorem wtE_outs {ts : List T} (h : (Sh.sl shOut).wt ts) : ∃ l : List Ot, ts = [otsT l] := by
  obtain ⟨l, h1, -, -⟩ := wtE_sl cOt (Q := fun _ => True) (fun a k => by obtain ⟨o, e⟩ := wtE_out k; exact ⟨o, e, trivial⟩) h
  exact ⟨l, h1⟩
theorem editorCopies_wt {t0 t1 : List T} (h0 : Sh.str.wt t0) (h1 : Sh.str.wt t1) : CallP Tryz.prog 4 [Sh.str.tree t0, Sh.str.tree t1] (BL true) := by
  obtain ⟨s, rfl, hs⟩ := wtE_str h0
  obtain ⟨t, rfl, ht⟩ := wtE_str h1
  exact editorCopies_all s t
theorem editorMarks_wt {t0 t1 t2 : List T} (h0 : Sh.str.wt t0) (h1 : (Sh.sl shOut).wt t1) (h2 : shEU.wt t2) : CallP Tryz.prog 6 [Sh.str.tree t0, (Sh.sl shOut).tree t1, shEU.tree t2] (BL true) := by
  obtain ⟨s, rfl, hs⟩ := wtE_str h0
  obtain ⟨l, rfl⟩ := wtE_outs h1
  obtain ⟨c, rfl, hc⟩ := wtE_u8 h2
  exact editorMarks_all s l c hc
end
section
open Go.RowKit
set_option maxRecDepth 100000
theorem glo_of {W : World} {l : List (String × DataW Unit)} (hf : l.filter (fun x => x.1 == "strings.asciiSpace") = [("strings.asciiSpace", Lib.tabData .u8 Lib.asciiSpaceTab)]) (h : laidMetH Tryz.prog l W) : Glo (inW (fun _ => none) W) := by
  have h2 := h.filter (fun x => x.1 == "strings.asciiSpace")
  rw [hf, MakeChecks.laidMetH_plain _ _ _ (by kernel_rfl)] at h2
  have ht : Lib.TabIs Tryz.prog W "strings.asciiSpace" .u8 Lib.asciiSpaceTab := Lib.tabIs_of_head (g := 0) (t := 161) (e := 5) (n := 256) (by kernel_rfl) (by kernel_rfl) (by kernel_rfl) (by kernel_rfl) (by kernel_rfl) (by kernel_rfl) h2
  intro g a hg
  have hg' : glT g = some a := hg
  unfold glT at hg'
  split at hg'
  · rename_i hgg
    subst hgg
    injection hg' with hg'
    subst hg'
    unfold Lib.TabIs World.var? at ht
    rw [show Tryz.prog.globalNamed "strings.asciiSpace" = some 0 from by kernel_rfl] at ht
    simp only [Option.bind_some] at ht
    refine ⟨fun h => h, ?_⟩
    show ∃ e f, W.heap[0]? = some (.cells spaceA e f)
    split at ht
    · rename_i cs e f he
      injection ht with ht
      subst ht
      exact ⟨_, _, he⟩
    · cases ht
  · cases hg'
end
section
open Go.ChangeShapes Go.WideShapes Go.ChangeAt Go.RowKit Go.WideElems
def rowed (P : Program) (ts : List TypeId) : Bool := ts.all fun t => P.readableRec t && decide (t < P.types.size)
theorem trodAll_below {H : Type} {enc : TypeId × Value → H} {P : Program} (hl : laidOutB P = true) {W W' : World} (hb : Below W.heap.size W W') :
    ∀ {ts : List TypeId} {vs : List Value} {ds : List (DataW H)} {p : List MemPlace}, rowed P ts = true → (∀ x ∈ p, x.block < W.heap.size) →
      DataW.TrodAll enc P W 0 (fun _ => true) true ts vs ds p → DataW.TrodAll enc P W' 0 (fun b => decide (b < W.heap.size)) true ts vs ds p
  | [], _, _, _, _, _, h => by
    obtain ⟨rfl, rfl, rfl⟩ := trodAll_nil h
    exact trodAll_mk0
  | t :: ts, _, _, _, hr, hlt, h => by
    obtain ⟨v, vs1, d, ds1, a, b, rfl, rfl, rfl, h1, h2⟩ := trodAll_cons h
    simp only [rowed, List.all_cons, Bool.and_eq_true, decide_eq_true_eq] at hr
    refine trodAll_cons_mk (Below.trod hl hr.1.1 hr.1.2 h1 hb (fun x hx => hlt x (by simp [hx]))) ?_
    exact trodAll_below hl hb (by simpa [rowed] using hr.2) (fun x hx => hlt x (by simp [hx])) h2
theorem post_law {H : Type} {enc : TypeId × Value → H} {P : Program} {f : Func} {s : ChangeSpec} {W W' : World} {args : Array Value} {ds gs : List (DataW H)} {before : List MemPlace} {tb : TypeId}
    (hl : laidOutB P = true) (hps : rowed P f.params.toList = true) (hvs : varsRowed P s.vars = true) (hres : f.resultTypes = #[tb]) (htb : P.underlying tb = some .bool)
    (hW : DataW.Whole enc P f.params.toList s.vars false W args.toList ds gs before)
    (h1 : (s.fn H (ds ++ gs)).results = [.lit (.bool true)]) (h2 : (s.fn H (ds ++ gs)).args = ds) (h3 : (s.fn H (ds ++ gs)).vars = gs)
    (hb : Below W.heap.size W W') : s.post enc P f false true false false W args (.bool true) W' := by
  have hlt := hW.lt
  have hW' := hW
  obtain ⟨p, q, hA, hV, rfl, hfz, hnd⟩ := hW
  refine ⟨ds, gs, p ++ q, [], p, q, hW', ?_, ?_, ?_, hb.frame _, fun h => by cases h⟩
  · rw [h1, hres]
    exact trodAll_cons_mk (shut_bool htb true) trodAll_mk0
  · rw [h2]
    exact trodAll_below hl hb hps (fun x hx => hlt x (by simp [hx])) hA
  · rw [h3]
    exact Below.trodVars hl hb hvs hV
end
end Go.Proofs.YtofmninnienjhaaGreatDoor
