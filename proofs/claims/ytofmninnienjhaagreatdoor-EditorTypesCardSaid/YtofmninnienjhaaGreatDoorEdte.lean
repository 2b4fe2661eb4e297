/-
  The proof's lemmas, part 5.
-/
import Derived.Test.YtofmninnienjhaaGreatDoorEdtd
import Derived.LaidSub
import Derived.MakeChecks
import Derived.OpenVars
import Derived.Carry
namespace Go.Proofs.YtofmninnienjhaaGreatDoor
set_option linter.unusedSimpArgs false
set_option linter.unusedVariables false
section
open Go.RowKit
def visH (fl : Bool) (F : Hp) : Hp := if fl then F else List.replicate F.length .d
theorem visH_len (fl : Bool) (F : Hp) : (visH fl F).length = F.length := by unfold visH; cases fl <;> simp
theorem blkH_dead : ∀ (n b : Nat), blkH (List.replicate n .d) b = .d
  | 0, _ => rfl
  | n + 1, 0 => rfl
  | n + 1, b + 1 => blkH_dead n b
def wOkG : List Wr → Hp → Prop
  | [], _ => True
  | (b, o, xs) :: W, F => match lookH F b with
    | some cs => o + xs.length ≤ cs.length ∧ xs.all cellB = true ∧ wOkG W (setH F b (.c (putL cs o xs)))
    | none => False
theorem appW_snocG {b o : Nat} {xs : List T} : ∀ (W V : List Wr) (F : Hp), wOkG (W ++ (b, o, xs) :: V) F → ∃ cs, lookH (appW W F) b = some cs ∧ o + xs.length ≤ cs.length ∧ xs.all cellB = true ∧ appW (W ++ [(b, o, xs)]) F = setH (appW W F) b (.c (putL cs o xs))
  | [], V, F, h => by
    simp only [List.nil_append, wOkG] at h
    split at h
    · rename_i cs hc
      exact ⟨cs, hc, h.1, h.2.1, by simp only [List.nil_append, appW, hc]⟩
    · exact h.elim
  | (b', o', xs') :: W, V, F, h => by
    simp only [List.cons_append, wOkG] at h
    split at h
    · rename_i cs hc
      obtain ⟨cs2, k1, k2, k3, k4⟩ := appW_snocG W V _ h.2.2
      refine ⟨cs2, ?_, k2, k3, ?_⟩
      · simp only [appW, hc]; exact k1
      · simp only [List.cons_append, appW, hc]; exact k4
    · exact h.elim
inductive RunT [Dr] (P : Program) (tab : Tab) (im : List Nat) (ops : Array Oper) : List Oper → Env → Hp → List Stp → List Bool → List (Option Wr) → Env → Hp → Prop
  | nil (E : Env) (F : Hp) : RunT P tab im ops [] E F [] [] [] E F
  | one {o : Oper} {l : List Oper} {E : Env} {F : Hp} {s : Stp} {f : Bool} {r : List Stp} {fs : List Bool} {ws : List (Option Wr)} {E' : Env} {F' : Hp} (h : StpOk P tab im ops o E (visH f F) s)
      (k : RunT P tab im ops l (E.put o.dst s.t) (F ++ newsOf s.nb) r fs ws E' F') : RunT P tab im ops (o :: l) E F (s :: r) (f :: fs) (none :: ws) E' F'
  | sto {o : Oper} {l : List Oper} {E : Env} {F : Hp} {t : Nat} {a x : Operand} {b q : Nat} {tx : T} {i : TyI} {r : List Stp} {fs : List Bool} {ws : List (Option Wr)} {E' : Env} {F' : Hp} (hg : o.guard = none) (hd : o.dst = none) (ho : o.op = .store t a x) (hT : tab t = some i) (ha : E.opd a = some (.ptr b q)) (hx : E.opd x = some tx)
      (hl : (flat tx).length = i.sz) (k : RunT P tab im ops l E F r fs ws E' F') : RunT P tab im ops (o :: l) E F (⟨.v undef, none⟩ :: r) (false :: fs) (some (b, q, flat tx) :: ws) E' F'
theorem runT_at [Dr] {P : Program} {tab : Tab} {im : List Nat} {ops : Array Oper} {l : List Oper} {E : Env} {F : Hp} {r : List Stp} {fs : List Bool} {ws : List (Option Wr)} {E' : Env} {F' : Hp} (h : RunT P tab im ops l E F r fs ws E' F') :
    r.length = l.length ∧ fs.length = l.length ∧ ws.length = l.length ∧ E' = envAt l r E l.length ∧ F' = hpAt r F l.length ∧
      (∀ k o s f w, l[k]? = some o → r[k]? = some s → fs[k]? = some f → ws[k]? = some w → StpS P tab im ops o (envAt l r E k) (visH f (hpAt r F k)) s w) := by
  induction h with
  | nil E F => exact ⟨rfl, rfl, rfl, rfl, rfl, fun k o s f w h => by simp at h⟩
  | @one o l E F s f r fs ws E' F' h k ih =>
    obtain ⟨h1, h2, h3, h4, h5, h6⟩ := ih
    refine ⟨by simp [h1], by simp [h2], by simp [h3], h4, h5, fun j o' s' f' w ho hs' hh hw => ?_⟩
    cases j with
    | zero => simp at ho hs' hh hw; subst ho hs' hh hw; exact h
    | succ j => exact h6 j o' s' f' w (by simpa using ho) (by simpa using hs') (by simpa using hh) (by simpa using hw)
  | @sto o l E F t a x b q tx i r fs ws E' F' hg hd ho hT ha hx hl k ih =>
    obtain ⟨h1, h2, h3, h4, h5, h6⟩ := ih
    refine ⟨by simp [h1], by simp [h2], by simp [h3], ?_, ?_, fun j o' s' f' w ho' hs' hh hw => ?_⟩
    · rw [h4]; show _ = envAt l r (E.put o.dst _) l.length; rw [hd]; rfl
    · rw [h5]; show _ = hpAt r (F ++ newsOf none) l.length; simp [newsOf]
    · cases j with
      | zero => simp at ho' hs' hh hw; subst ho' hs' hh hw; exact ⟨rfl, hg, hd, t, a, x, tx, i, ho, hT, ha, hx, rfl, hl⟩
      | succ j =>
        have := h6 j o' s' f' w (by simpa using ho') (by simpa using hs') (by simpa using hh) (by simpa using hw)
        have e : envAt (o :: l) (⟨.v undef, none⟩ :: r) E (j + 1) = envAt l r E j := by show envAt l r (E.put o.dst _) j = _; rw [hd]; rfl
        have e2 : hpAt (⟨.v undef, none⟩ :: r) F (j + 1) = hpAt r F j := by show hpAt r (F ++ newsOf none) j = _; simp [newsOf]
        rw [e, e2]; exact this
def lateB (l : List Oper) (fs : List Bool) : Bool := (List.range l.length).all fun k' => !stB l[k']? || (List.range fs.length).all fun k => !(fs.getD k false) || ((masks l []).getD k' 0).testBit k
section
variable {z : Bool} {P : Program} {tab : Tab} {n m kb lb : Nat} {l : List Oper} {E : Env} {H : Hp} {r : List Stp} {fs : List Bool} {ws : List (Option Wr)} {X0 : Nat → Prop} {M0 : Mp} {im : List Nat}
structure RunG [Dr] (P : Program) (tab : Tab) (im : List Nat) (l : List Oper) (m : Nat) (E : Env) (H : Hp) (r : List Stp) (fs : List Bool) (ws : List (Option Wr)) : Prop where
  rl : r.length = (l.take m).length
  hl : fs.length = (l.take m).length
  wl : ws.length = (l.take m).length
  st : ∀ k o s f w, (l.take m)[k]? = some o → r[k]? = some s → fs[k]? = some f → ws[k]? = some w → StpS P tab im l.toArray o (envAt (l.take m) r E k) (visH f (hpAt r H k)) s w
  ok : wOkG (ws.filterMap id) (hpAt r H r.length)
  late : lateB l fs = true
theorem JdS.lookT [Dr] {L : Nat → Prop} {a : Act} {M : Mp} {j : Nat} (hO : OrdB l m) (hF : RunG P tab im l m E H r fs ws) (h : JdS n kb (l.take m) r ws E H X0 j L a M) (hc : Closed l L) {k : Nat} (hk : ¬ L k) {f : Bool} (hkk : fs[k]? = some f) : LookAt M (lookH (visH f (hpAt r H k))) := by
  have hkl : k < (l.take m).length := by rw [← hF.hl]; exact (List.getElem?_eq_some_iff.1 hkk).1
  intro b B O cells hb hcc
  cases f with
  | false => rw [lookH_c] at hcc; unfold visH at hcc; rw [if_neg (by decide), blkH_dead] at hcc; cases hcc
  | true =>
    have hcc' : lookH (hpAt r H k) b = some cells := hcc
    refine Sim.look h.sim b B O cells hb ?_
    have hd := h.sim.D_of hb
    rw [lookH_c] at hcc'
    rw [cells_some]
    unfold lookG
    rw [if_pos hd, appW_other _ _ fun w hw e => ?_]
    · have hlt : b < (hpAt r H k).length := blkH_lt (by rw [hcc']; simp)
      have hkeep := (hpAt_keep (r := r) (H := H) k r.length (by have := hF.rl; omega) (Nat.le_refl _)).2 b hlt
      rw [hkeep]; exact hcc'
    · obtain ⟨i, hi⟩ := List.getElem?_of_mem hw
      have hij : i < j := by
        have := (List.getElem?_eq_some_iff.1 hi).1
        rw [List.length_take] at this; omega
      rw [List.getElem?_take, if_pos hij] at hi
      have hlt : i < cntW ws ws.length := by unfold cntW; rw [List.take_length]; exact (List.getElem?_eq_some_iff.1 hi).1
      obtain ⟨k', w', q1, q2, q3⟩ := cntW_pos hlt
      have hL : L k' := (h.cnt k' w' q2).2 (by omega)
      have hk'l : k' < (l.take m).length := by rw [← hF.wl]; exact q1
      have hol : l[k']? = some (l.take m)[k'] := by have := List.getElem?_eq_getElem hk'l; rw [List.getElem?_take] at this; split at this; exact this; cases this
      have hst := hF.st k' _ _ _ _ (List.getElem?_eq_getElem hk'l) (List.getElem?_eq_getElem (by rw [hF.rl]; exact hk'l)) (List.getElem?_eq_getElem (by rw [hF.hl]; exact hk'l)) q2
      obtain ⟨b', q', xs'⟩ := w'
      obtain ⟨-, -, -, t', x', y', tx', i', hoc', -⟩ := hst
      have hlate := hF.late
      unfold lateB at hlate
      rw [List.all_eq_true] at hlate
      have h1 := hlate k' (List.mem_range.2 (List.getElem?_eq_some_iff.1 hol).1)
      have hsb : stB l[k']? = true := by rw [hol]; generalize (l.take m)[k'] = ok at hoc'; simp [stB, hoc']
      rw [hsb] at h1
      simp only [Bool.not_true, Bool.false_or] at h1
      rw [List.all_eq_true] at h1
      have h2 := h1 k (List.mem_range.2 (List.getElem?_eq_some_iff.1 hkk).1)
      have hfk : fs.getD k false = true := by simp [List.getD, hkk]
      rw [hfk] at h2
      simp only [Bool.not_true, Bool.false_or] at h2
      exact hk (mask_listed hO.back hc k' hL k h2)
theorem JdS.stepT [Dr] (hT : TabOk P tab) (hO : OrdB l m) (hch : chainB l m = true) (hF : RunG P tab im l m E H r fs ws)
    {L : Nat → Prop} {a : Act} {M : Mp} {j : Nat} (h : JdS n kb (l.take m) r ws E H X0 j L a M) (hc : Closed l L) {k : Nat} {o : Oper} (ho : (l.take m)[k]? = some o) (hk : ¬ L k) (hpre : ∀ e ∈ o.after, Region.binds .any e = true → L e.on) (hd : ∀ d, o.dst = some d → d < n)
    {r0 : Option Nat} {Q : Exit → Act → World → Prop} {K : Act → World → Prop} (hK : ∀ a' M' j', Evo X0 M M' → JdS n kb (l.take m) r ws E H X0 j' (fun i => L i ∨ i = k) a' M' → K a' M'.w) : wpOpIn (FW r0) 0 P l.toArray Q k K a M.w := by
  have hr := hF.rl
  have hkl : k < (l.take m).length := (List.getElem?_eq_some_iff.1 ho).1
  have hol : l[k]? = some o := by rw [List.getElem?_take] at ho; split at ho; exact ho; cases ho
  have hkm : k < m := by rw [List.length_take] at hkl; omega
  have hs' : r[k]? = some r[k] := List.getElem?_eq_getElem (by omega)
  obtain ⟨f', hh'⟩ : ∃ x, fs[k]? = some x := ⟨_, List.getElem?_eq_getElem (by rw [hF.hl]; omega)⟩
  obtain ⟨w, hw'⟩ : ∃ x, ws[k]? = some x := ⟨_, List.getElem?_eq_getElem (by rw [hF.wl]; omega)⟩
  have hstp := hF.st k o _ _ _ ho hs' hh' hw'
  generalize r[k] = s at hs' hstp
  have hlook := h.lookT hO hF hc hk hh'
  have hrd := fun (d : Nat) (t : T) => h.read hO hr hc ho hk hpre (d := d) (t := t)
  have hop : ∀ x ∈ o.op.operands.toList, ∀ t, (envAt (l.take m) r E k).opd x = some t → Rep M t (a.eval x) := by
    intro x hx t ht
    cases x with
    | tmp d =>
      obtain ⟨u, h1, h2⟩ := hrd d t (by simp only [readsOf, Oper.looksAt, List.mem_append, List.mem_filterMap]; exact .inl ⟨.tmp d, hx, rfl⟩) ht
      have : a.eval (.tmp d) = u := by show a.tmps.getD d undef = u; simp [h1]
      rw [this]; exact h2
    | const v => simp only [Env.opd] at ht; injection ht with ht; subst ht; exact rep_ofV v
    | func f => simp only [Env.opd] at ht; injection ht with ht; subst ht; exact ⟨[], [], rfl, rfl, rfl⟩
    | global g => simp only [Env.opd] at ht; injection ht with ht; subst ht; exact rfl
  unfold wpOpIn
  simp only [List.getElem?_toArray, hol]
  cases w with
  | some w =>
    obtain ⟨b, q, xs⟩ := w
    obtain ⟨rfl, hg, hdn, t, x, y, tx, i, hoc, hti, hx, hy, rfl, hxl⟩ := hstp
    have hw : Region.wanted o (yielded l.toArray a.tmps) = true := by simp [Region.wanted, hg]
    rw [hw, if_pos rfl]
    have hix := cntW_lt hw'
    have hij : cntW ws k = j := by
      have h1 : ¬ cntW ws k < j := fun hh => hk ((h.cnt k _ hw').2 hh)
      refine Nat.le_antisymm (Nat.le_of_not_lt fun hh => ?_) (by omega)
      obtain ⟨k', w', q1, q2, q3⟩ := cntW_pos hh
      have hk'l : k' < (l.take m).length := by rw [← hF.wl]; exact (List.getElem?_eq_some_iff.1 q2).1
      have ho' : (l.take m)[k']? = some (l.take m)[k'] := List.getElem?_eq_getElem hk'l
      have hst' := hF.st k' _ _ _ _ ho' (List.getElem?_eq_getElem (by omega)) (List.getElem?_eq_getElem (by rw [hF.hl]; omega)) q2
      obtain ⟨b', q', xs'⟩ := w'
      obtain ⟨-, -, -, t', x', y', tx', i', hoc', -⟩ := hst'
      have hol' : l[k']? = some (l.take m)[k'] := by have := ho'; rw [List.getElem?_take] at this; split at this; exact this; cases this
      have hL := mask_next hO.back hc hol hpre (chain_at hch hkm q1 hol hol' hoc hoc')
      have := (h.cnt k' _ q2).1 hL
      omega
    rw [hij] at hix
    have hsp : ws.filterMap id = (ws.filterMap id).take j ++ (b, q, flat tx) :: (ws.filterMap id).drop (j + 1) := by
      have h1 := (List.getElem?_eq_some_iff.1 hix)
      rw [← h1.2, ← List.drop_eq_getElem_cons h1.1, List.take_append_drop]
    have hok := hF.ok
    rw [hsp] at hok
    obtain ⟨cs, k1, k2, k3, k4⟩ := appW_snocG _ _ _ hok
    have htk : (ws.filterMap id).take (j + 1) = (ws.filterMap id).take j ++ [(b, q, flat tx)] := by rw [List.take_add_one, hix]; rfl
    have hrx := hop x (by rw [hoc]; simp [Op.operands]) _ hx
    have hry := hop y (by rw [hoc]; simp [Op.operands]) _ hy
    have hbb : b < H.length ∨ made r H L b := by obtain ⟨B, O, hb, -⟩ := hrx; exact h.sim.D_of hb
    have hbk : lookG r H (appW ((ws.filterMap id).take j) (hpAt r H r.length)) L b = .c cs := by unfold lookG; rw [if_pos hbb]; exact lookH_c.1 k1
    obtain ⟨M', e1, e2, e3⟩ := Sim.stored (P := P) hT h.sim hti hbk hrx hry hxl k2 k3
    have hnd : ∀ c, o.op ≠ .defer c := by rw [hoc]; simp
    refine wpIn_of hnd ?_
    obtain ⟨dst, op, ty, pos, after, guard⟩ := o
    simp only at hoc hdn
    subst hoc hdn
    have hrr : (execOp a.eval ⟨none, .store t x y, ty, pos, after, guard⟩).run P M.w = .ok .skip M'.w := by simp [execOp, e1]
    rw [hrr]
    refine hK _ _ (j + 1) e2 (h.next hO ho hs' hk hd e2 (e3.congr (fun c => ?_) (fun c => by rw [made_none hs' rfl])) (u := undef) rfl (fun k2' w2 hw2 => ?_) (fun w2 hw2 => ?_))
    · rw [lookG_none hs' rfl, htk, k4]
      unfold lookG updL
      by_cases hcb : c = b
      · subst hcb; rw [if_pos hbb, if_pos rfl, blkH_set _ _ _ _ (lookH_lt k1), if_pos rfl]
      · rw [if_neg hcb]
        dsimp only
        by_cases hcd : c < H.length ∨ made r H L c
        · rw [if_pos hcd, if_pos hcd, blkH_set _ _ _ _ (lookH_lt k1), if_neg hcb]
        · rw [if_neg hcd, if_neg hcd]
    · rw [h.cnt k2' w2 hw2]
      constructor
      · rintro (q1 | rfl) <;> omega
      · intro hh
        by_cases h2 : cntW ws k2' < j
        · exact .inl h2
        · refine .inr ?_
          rcases Nat.lt_trichotomy k2' k with q1 | q1 | q1
          · have := cntW_mono q1 hw2; omega
          · exact q1
          · have := cntW_mono q1 hw'; omega
    · rw [htk] at hw2
      rcases List.mem_append.1 hw2 with q1 | q1
      · exact (h.mkd w2 q1).imp id made_or
      · rw [List.mem_singleton] at q1; subst q1; exact hbb.imp id made_or
  | none =>
    have hcn : ∀ k' w, ws[k']? = some (some w) → ((L k' ∨ k' = k) ↔ cntW ws k' < j) := fun k' w hwk => by
      rw [← h.cnt k' w hwk]
      exact ⟨fun hh => hh.resolve_right (fun e => by subst e; rw [hw'] at hwk; injection hwk with hwk; cases hwk), Or.inl⟩
    have hmk : ∀ w ∈ (ws.filterMap id).take j, w.1 < H.length ∨ made r H (fun i => L i ∨ i = k) w.1 := fun w hw => (h.mkd w hw).imp id made_or
    have hgd : ∀ g want d b, o.guard = some (g, want) → (l.toArray[g]?).bind (·.dst) = some d → (envAt (l.take m) r E k).get d = some (.v (.bool b)) → yielded l.toArray a.tmps g = some b := by
      intro g want d b hg hgd hb
      have hgd' : (l[g]?.bind fun x => x.dst) = some d := by simpa using hgd
      obtain ⟨u, h1, h2⟩ := hrd d _ (by simp [readsOf, Oper.looksAt, hg]; exact .inr hgd') hb
      obtain rfl := h2
      simp [yielded, hgd', h1]
    rcases hstp with ⟨h1, h2, g, want, d, x, hg, hgdst, hb, hne⟩ | ⟨hg, hst⟩
    · have hw : Region.wanted o (yielded l.toArray a.tmps) = false := by
        have hgd' : (l[g]?.bind fun x => x.dst) = some d := by simpa using hgdst
        obtain ⟨u, q1, q2⟩ := hrd d _ (by simp [readsOf, Oper.looksAt, hg]; exact .inr hgd') hb
        obtain rfl := q2
        have hy : yielded l.toArray a.tmps g = match u with | .bool b => some b | _ => none := by simp only [yielded, List.getElem?_toArray, hgd', Option.bind_some, q1]; cases u <;> rfl
        simp only [Region.wanted, hg, hy]
        cases u <;> first | rfl | skip
        rename_i b
        cases b <;> cases want <;> first | rfl | exact absurd rfl hne
      rw [hw]
      refine ⟨fun _ _ => trivial, hK _ M j (Evo.refl _ _) (h.next hO ho hs' hk hd (Evo.refl _ _) (h.sim.congr (fun b => lookG_none hs' h2 b) fun b => by rw [made_none hs' h2]) (by rw [h1]; rfl) hcn hmk)⟩
    · have hw : Region.wanted o (yielded l.toArray a.tmps) = true := by
        rcases hg with hg | ⟨g, want, d, hg, hgdst, hb⟩
        · simp [Region.wanted, hg]
        · have hy := hgd g want d want hg hgdst hb
          simp [Region.wanted, hg, hy]
      rw [hw, if_pos rfl]
      have hnd : ∀ c, o.op ≠ .defer c := by
        rcases hst with ⟨t, nb, hm, -⟩ | ⟨f, args, ats, g, fs, cs, ts, hoc, -⟩
        · exact opM_op hm
        · rw [hoc]; simp
      refine wpIn_of hnd ?_
      rcases hst with ⟨t, nb, hm, hst⟩ | ⟨f, args, ats, g, fs, cs, ts, hoc, hf, hts, hcall, hnb⟩
      · have hmk' := opM_ok (M := M) (ρ' := a.eval) hT hlook hop hm
        rcases hst with ⟨hst, hnb⟩ | ⟨⟨e, cs⟩, rfl, hst, hnb⟩
        case inr =>
          obtain ⟨u, w', q1, q2, q3, q4⟩ := imm_new h.sim hmk' (opM_new hm)
          rw [q1]
          exact hK _ _ j q2 (h.next hO ho hs' hk hd q2 ((h.sim.world q2 q3).congr (fun b => lookG_none hs' hnb b) fun b => by rw [made_none hs' hnb]) (by rw [hst]; exact q4) hcn hmk)
        subst hst
        cases nb with
        | none =>
          obtain ⟨u, h1, h2⟩ := hmk'
          rw [h1]
          exact hK _ M j (Evo.refl _ _) (h.next hO ho hs' hk hd (Evo.refl _ _) (h.sim.congr (fun b => lookG_none hs' hnb b) fun b => by rw [made_none hs' hnb]) h2 hcn hmk)
        | some p =>
          obtain ⟨e, cs⟩ := p
          simp only [Option.map_some] at hnb
          rw [visH_len] at hmk'
          obtain ⟨u, ar, h1, h2, h3⟩ := hmk'
          rw [h1]
          have hid : ¬ (hpAt r H k).length < H.length := by have := (hp_start (r := r) (H := H) (k := k) (by omega)).1; omega
          have hnd' : ¬ made r H L (hpAt r H k).length := by
            rintro ⟨j', s', q1, q2, q3, q4⟩
            exact hk (new_ne q1 q2 hs' (by rw [hnb]; simp) q4 ▸ q3)
          have hnd : ¬ ((hpAt r H k).length < H.length ∨ made r H L (hpAt r H k).length) := fun hh => hh.elim hid hnd'
          obtain ⟨Ev, S, hsh⟩ := h.sim.new (nx := (hpAt r H k).length) hnd (w := { M.w with heap := M.w.heap.push (.cells ar e) }) rfl rfl ⟨rfl, fun _ => Nat.le_refl _⟩ rfl (fun j _ hj => by simp at hj) h2
          have hmade : ∀ b, made r H (fun j => L j ∨ j = k) b ↔ made r H L b ∨ b = (hpAt r H k).length := fun b => by
            constructor
            · rintro ⟨j, s', q1, q2, q3 | q3, q4⟩
              · exact .inl ⟨j, s', q1, q2, q3, q4⟩
              · subst q3; exact .inr q4.symm
            · rintro (⟨j, s', q1, q2, q3, q4⟩ | q)
              · exact ⟨j, s', q1, q2, .inl q3, q4⟩
              · exact ⟨k, s, hs', by rw [hnb]; simp, .inr rfl, q.symm⟩
          refine hK _ (newM M _ _) j Ev (h.next hO ho hs' hk hd Ev (S.congr (fun b => ?_) (fun b => ?_)) (h3 _ (if_pos rfl) hsh) hcn hmk)
          · unfold lookG
            by_cases hb : b = (hpAt r H k).length
            · subst hb
              rw [if_pos (.inr ((hmade _).2 (.inr rfl))), if_pos rfl, appW_other _ _ fun w hw e => ?_]
              · exact (new_at hs' hnb).2
              · have := h.mkd w hw
                rw [e] at this
                exact hnd this
            · rw [if_neg hb]
              by_cases hbD : b < H.length ∨ made r H L b
              · rw [if_pos hbD, if_pos (hbD.imp id fun hh => (hmade b).2 (.inl hh))]
              · rw [if_neg hbD, if_neg fun hh => hbD (hh.imp id fun q => ((hmade b).1 q).resolve_right hb)]
          · rw [hmade, or_assoc]
      · obtain ⟨dst, op, ty, pos, after, guard⟩ := o
        simp only at hoc hop hd
        subst hoc
        obtain ⟨us, vs, e1, r1, r2⟩ := hop f (by simp [Op.operands, Call.operands]) _ hf
        have r3 := optL_ok (M := M) (ρ' := a.eval) _ _ (fun x hx t ht => hop x (by simp [Op.operands, Call.operands]; exact .inr (by simpa using hx)) t ht) hts
        have hrr : (execOp a.eval ⟨dst, .call ⟨.value f, args, ats⟩, ty, pos, after, guard⟩).run P M.w = .ok (.enter g (us ++ args.toList.map a.eval ++ vs).toArray) M.w := by
          simp only [execOp, resolve, Sem.run_bind, e1, Deferred.ofValue, Sem.run_pure, Result.andThen_ok, invoke]
          rw [run_goFunc _ _ _ hcall.2.2.1, ← map_arr]
          simp
        rw [hrr]
        refine ⟨fun hh => (by cases hh), callsIn_wide.2 ((hcall.run X0 M _ h.sim.bnd h.sim.glo (RepL.append (RepL.append r1 r3) r2)).mono ?_)⟩
        rintro e w' ⟨u, rfl, k1, k2, k3⟩
        exact hK _ _ j k1 (h.next hO ho hs' hk hd k1 ((h.sim.world k1 k3).congr (fun b => lookG_none hs' hnb b) fun b => by rw [made_none hs' hnb]) k2 hcn hmk)
theorem JdS.finT [Dr] {L : Nat → Prop} {a : Act} {M : Mp} {j : Nat} (hO : OrdB l m) (hF : RunG P tab im l m E H r fs ws) (h : JdS n kb (l.take m) r ws E H X0 j L a M) (hL : ∀ k, k < (l.take m).length → L k) : St n kb (envAt (l.take m) r E (l.take m).length) (appW (ws.filterMap id) (hpAt r H (l.take m).length)) X0 a M := by
  have hr := hF.rl
  have hdis : ∀ (i j : Nat) (oi oj : Oper), (l.take m)[i]? = some oi → (l.take m)[j]? = some oj → i ≠ j → ∀ d, oi.dst = some d → oj.dst ≠ some d := fun i j oi oj hi hj hij d hdi => (hO.pair j oj i oi hj hi hij d hdi).1
  have hmd : ∀ b, made r H L b ↔ ¬ b < H.length ∧ b < (hpAt r H r.length).length := fun b => by
    constructor
    · rintro ⟨k, s, q1, q2, -, q4⟩
      have hk := (List.getElem?_eq_some_iff.1 q1).1
      obtain ⟨cs, hcs⟩ := Option.ne_none_iff_exists'.1 q2
      have h1 := (new_at (H := H) q1 hcs).1
      have h2 := (hpAt_keep (r := r) (H := H) (k + 1) r.length hk (Nat.le_refl _)).1
      have h3 := (hp_start (r := r) (H := H) (k := k) (by omega)).1
      omega
    · rintro ⟨h1, h2⟩
      obtain ⟨j, s, q1, q2, q3, q4⟩ := made_all (Nat.le_refl _) h2 h1
      exact ⟨j, s, q2, q3, hL j (by omega), q4⟩
  have htk : (ws.filterMap id).take j = ws.filterMap id := by
    refine List.take_of_length_le (Nat.le_of_not_lt fun hh => ?_)
    have e : (ws.filterMap id).length = cntW ws ws.length := by unfold cntW; rw [List.take_length]
    rw [e] at hh
    obtain ⟨k', w, q1, q2, q3⟩ := cntW_pos hh
    have := (h.cnt k' w q2).1 (hL k' (by rw [← hF.wl]; exact q1))
    omega
  refine ⟨fun d t ht => ?_, h.sz, h.df, h.ge, h.sim.congr (fun b => ?_) (fun b => ?_)⟩
  · obtain ⟨g1, g2⟩ := env_get (E := E) (d := d) hr (Nat.le_refl _) hdis
    by_cases hw : ∃ j oj, j < (l.take m).length ∧ (l.take m)[j]? = some oj ∧ oj.dst = some d
    · obtain ⟨j, oj, hj, hoj, hdj⟩ := hw
      have hs : r[j]? = some r[j] := List.getElem?_eq_getElem (by omega)
      rw [g1 j oj _ hj hoj hs hdj] at ht
      injection ht with ht; subst ht
      exact h.slot j oj _ d hoj hs (hL j hj) hdj
    · rw [g2 fun j oj hj hoj hdj => hw ⟨j, oj, hj, hoj, hdj⟩] at ht
      exact h.old d t ht fun j oj hoj _ hdj => hw ⟨j, oj, (List.getElem?_eq_some_iff.1 hoj).1, hoj, hdj⟩
  · rw [← hr, htk]
    unfold lookG
    by_cases hb : b < H.length ∨ made r H L b
    · rw [if_pos hb]
    · rw [if_neg hb]
      refine Classical.byContradiction fun hne => hb ?_
      have hlt := blkH_lt hne
      rw [appW_len] at hlt
      by_cases hbH : b < H.length
      · exact .inl hbH
      · exact .inr ((hmd b).2 ⟨hbH, hlt⟩)
  · rw [← hr, appW_len, hmd]
    have := (hp_start (r := r) (H := H) (k := r.length) (Nat.le_refl _)).1
    omega
theorem draw_anyT [Dr] (hT : TabOk P tab) (hO : OrdB l m) (hch : chainB l m = true) (hd : dstB n l = true) (hF : RunG P tab im l m E H r fs ws)
    {r0 : Option Nat} {Q : Exit → Act → World → Prop} (hQ : ∀ a M, Evo X0 M0 M → St n kb (envAt (l.take m) r E (l.take m).length) (appW (ws.filterMap id) (hpAt r H (l.take m).length)) X0 a M → wpListIn (FW r0) 0 P l.toArray Q (l.drop m) a M.w) :
    ∀ (fuel : Nat) (listed : Array Bool) (a : Act) (M : Mp) (j : Nat), leftB l listed ≤ fuel → listed.size = l.length → Closed l (lsd listed) → (∀ k, m ≤ k → ¬ lsd listed k) → Evo X0 M0 M → JdS n kb (l.take m) r ws E H X0 j (lsd listed) a M → wpAnyIn (FW r0) 0 P .any l.toArray Q fuel listed a M.w := by
  have hml : (l.take m).length = m := by rw [List.length_take]; have := hO.le; omega
  intro fuel
  have fin : ∀ (fuel : Nat) (listed : Array Bool) (a : Act) (M : Mp) (j : Nat), leftB l listed ≤ fuel → listed.size = l.length → (∀ k, m ≤ k → ¬ lsd listed k) → (∀ k, k < m → lsd listed k) → Evo X0 M0 M → JdS n kb (l.take m) r ws E H X0 j (lsd listed) a M → wpAnyIn (FW r0) 0 P .any l.toArray Q fuel listed a M.w := by
    intro fuel listed a M j hf hsz hno hall hE hJ
    refine tail_any hO fuel listed m a M.w ?_ hsz (Nat.le_refl _) hO.le (fun k => ⟨fun h => ?_, hall k⟩) (hQ a M hE (hJ.finT hO hF fun k hk => hall k (by omega)))
    · have h1 : leftB l listed = l.length - m := by
        unfold leftB
        have e : List.range l.length = List.range m ++ (List.range (l.length - m)).map (m + ·) := by
          rw [← List.range_add, show m + (l.length - m) = l.length from by have := hO.le; omega]
        rw [e, List.countP_append]
        have e1 : (List.range m).countP (fun k => !listed.getD k false) = 0 := by
          rw [List.countP_eq_zero]
          intro k hk
          have := hall k (List.mem_range.1 hk)
          unfold lsd at this
          simpa using this
        have e2 : ((List.range (l.length - m)).map (m + ·)).countP (fun k => !listed.getD k false) = l.length - m := by
          rw [List.countP_eq_length.2]
          · simp
          · intro k hk
            rw [List.mem_map] at hk
            obtain ⟨q, -, rfl⟩ := hk
            have := hno (m + q) (by omega)
            unfold lsd at this
            simpa using this
        omega
      omega
    · exact Nat.lt_of_not_le fun hk => hno k hk h
  induction fuel with
  | zero =>
    intro listed a M j hf hsz hc hno hE hJ
    by_cases hall : ∀ k, k < m → lsd listed k
    · exact fin 0 listed a M j hf hsz hno hall hE hJ
    · exfalso
      have h0 : leftB l listed = 0 := by omega
      unfold leftB at h0
      rw [List.countP_eq_zero] at h0
      apply hall
      intro k hk
      have := h0 k (List.mem_range.2 (by have := hO.le; omega))
      unfold lsd
      simpa using this
  | succ fuel ih =>
    intro listed a M j hf hsz hc hno hE hJ
    by_cases hall : ∀ k, k < m → lsd listed k
    · exact fin _ listed a M j hf hsz hno hall hE hJ
    · have hnext : ∃ i o, i < m ∧ l[i]? = some o ∧ ¬ lsd listed i ∧ ∀ e ∈ o.after, Region.binds .any e = true → lsd listed e.on := by
        have hex : ∃ k, k < m ∧ ¬ lsd listed k := by
          apply Classical.byContradiction
          intro h
          exact hall fun k hk => Classical.byContradiction fun hn => h ⟨k, hk, hn⟩
        obtain ⟨i, ⟨h1, h2⟩, hmin⟩ := least_nat hex
        have hile : i < l.length := by have := hO.le; omega
        have ho : l[i]? = some l[i] := List.getElem?_eq_getElem hile
        refine ⟨i, _, h1, ho, h2, fun e he hb => ?_⟩
        have hlt := back_at l 0 i _ hO.back ho e he hb
        exact Classical.byContradiction fun hn => by have := hmin e.on ⟨by omega, hn⟩; omega
      refine ⟨fun hr0 => ?_, fun i hi => ?_⟩
      · obtain ⟨i, o, h1, h2, h3, h4⟩ := hnext
        have := ready_of hsz h2 h3 h4
        rw [hr0] at this; cases this
      · obtain ⟨o, ho, hn, hp⟩ := ready_facts hsz hi
        have hil := (List.getElem?_eq_some_iff.1 ho).1
        have him : i < m := by
          refine Nat.lt_of_not_le fun hmi => ?_
          apply hall
          intro k hk
          exact mask_next hO.back hc ho hp (hO.full i hmi hil k (by omega))
        have hop : (l.take m)[i]? = some o := by rw [List.getElem?_take, if_pos him]; exact ho
        have hdo : ∀ d, o.dst = some d → d < n := fun d hdd => by
          unfold dstB at hd
          rw [List.all_eq_true] at hd
          have := hd o (List.mem_of_getElem? ho)
          rw [hdd] at this; simpa using this
        refine JdS.stepT hT hO hch hF hJ hc hop hn hp hdo fun a' M' j' hE' hJ' => ?_
        have hiff : ∀ k, lsd (listed.setIfInBounds i true) k ↔ lsd listed k ∨ k = i := lsd_set (by omega)
        have hfun : lsd (listed.setIfInBounds i true) = fun k => lsd listed k ∨ k = i := funext fun k => propext (hiff k)
        refine ih _ a' M' j' ?_ (by simpa using hsz) (fun k ok hok hk e he hb => ?_) (fun k hk h => ?_) (hE.trans hE') (by rw [hfun]; exact hJ')
        · have := leftB_set hsz hil hn; omega
        · rw [hiff] at hk ⊢
          rcases hk with hk | rfl
          · exact .inl (hc k ok hok hk e he hb)
          · rw [ho] at hok; injection hok with hok; subst hok; exact .inl (hp e he hb)
        · rcases (hiff k).1 h with h | h
          · exact hno k hk h
          · omega
theorem VC.drawT [Dr] {id : Nat} {QT : Exit → Env → Hp → Prop} (hT : TabOk P tab) (im : List Nat) (m : Nat) (hm : P.follows .mixedOrders = true) (hB : drawB n m l = true) (hch : chainB l m = true)
    (h : ∃ r fs ws E' F', RunT P tab im l.toArray (l.take m) E H r fs ws E' F' ∧ lateB l fs = true ∧ wOkG (ws.filterMap (·)) F' ∧ vcSeq P tab im (l.map (·.dst)) (l.drop m) E' (appW (ws.filterMap (·)) F') (QT .normal)) : VC z P n lb (.region id l.toArray true) QT E H := by
  intro X0 M a r0 kb hz hs
  obtain ⟨hO, hd⟩ := ord_of hB
  obtain ⟨r, fs, ws, E', F', hrun, hlate, hok, hk⟩ := h
  obtain ⟨h1, h2, h3, h4, h5, h6⟩ := runT_at hrun
  have hF : RunG P tab im l m E H r fs ws := ⟨h1, h2, h3, h6, by rw [h1, ← h5]; exact hok, hlate⟩
  refine wpIn_region_any hm ?_
  let M1 : Mp := ⟨M.β, M.X, { M.w with drawn := M.w.drawn + 1 }⟩
  have hE1 : Evo X0 M M1 := ⟨fun _ _ h => h, fun _ _ h => h, fun _ _ _ => rfl, fun _ _ h => h, rfl, ⟨rfl, fun _ => Nat.le_succ _⟩, rfl, Nat.le_refl _⟩
  have hs1 : St n kb E H X0 a M1 := ⟨fun d t ht => by obtain ⟨u, q1, q2⟩ := hs.tm d t ht; exact ⟨u, q1, Rep.stays hE1.stays _ _ q2⟩, hs.sz, hs.df.evo hE1, hs.ge, hs.sim.world hE1 fun _ _ => rfl⟩
  have hno : ∀ k, ¬ lsd (Array.replicate l.toArray.size false) k := fun k hk => by
    unfold lsd at hk
    by_cases hlt : k < l.length
    · simp [hlt] at hk
    · simp [hlt] at hk
  have hmd : ∀ b, ¬ made r H (lsd (Array.replicate l.toArray.size false)) b := fun b ⟨k, s, _, _, hk, _⟩ => hno k hk
  have := draw_anyT (r0 := r0) (X0 := X0) (M0 := M) (Q := Lift n kb lb X0 M QT) hT hO hch hd hF (fun a' M' hE' hs' => by
    rw [← h4, ← h5] at hs'
    refine vcSeq_ok (im := im) hT _ ?_ hs' (fun E2 H2 a2 M2 k1 k2 k3 => ⟨E2, H2, M2, k1, rfl, (hE'.trans k2).toK lb, k3⟩) hk
    unfold dstB at hd ⊢
    rw [List.all_eq_true] at hd ⊢
    exact fun o ho => hd o (List.mem_of_mem_drop ho)) l.toArray.size (Array.replicate l.toArray.size false) a M1 0 (Nat.le_trans List.countP_le_length (by simp)) (by simp) (fun k o _ hk => absurd hk (hno k)) (fun k _ => hno k) hE1
    ⟨hs1.sim.congr (fun b => by
        unfold lookG
        rw [List.take_zero]
        by_cases hb : b < H.length
        · rw [if_pos (.inl hb)]; exact (hp_start (Nat.le_refl _)).2 b hb
        · rw [if_neg fun hh => hh.elim hb (hmd b)]
          exact Classical.byContradiction fun hne => hb (blkH_lt fun e => hne (by rw [e]))) (fun b => ⟨fun h => h.elim (fun h => h) fun h => absurd h (hmd b), .inl⟩),
     fun k o s d _ _ hk => absurd hk (hno k), fun d t ht _ => hs1.tm d t ht, hs1.sz, hs1.df, hs1.ge, fun k w _ => ⟨fun hk => absurd hk (hno k), fun hh => by omega⟩, fun w hw => by rw [List.take_zero] at hw; cases hw⟩
  exact this
end
def VT [Dr] (P : Program) (tab : Tab) (im : List Nat) (ops : Array Oper) (l : List Oper) (E : Env) (F : Hp) (W : List Wr) (fl : List Bool) (K : Env → Hp → List Bool → Prop) : Prop :=
  ∀ E2, Sub E E2 → ∃ r fs ws E' F', RunT P tab im ops l E2 F r fs ws E' F' ∧ wOkG (W ++ ws.filterMap (·)) F' ∧ ∃ E1, Sub E1 E' ∧ K E1 (appW (W ++ ws.filterMap (·)) F') (fl ++ fs)
section
variable {z : Bool} {P : Program} {tab : Tab} {n lb : Nat} {im : List Nat} {ops : Array Oper} {l : List Oper} {E : Env} {F : Hp} {W : List Wr} {fl : List Bool} {K : Env → Hp → List Bool → Prop}
theorem VT.nil [Dr] (hw : wOkG W F) (h : K E (appW W F) fl) : VT P tab im ops [] E F W fl K := fun E2 he =>
  ⟨[], [], [], E2, F, .nil _ _, by simpa using hw, E, he, by simpa using h⟩
theorem VT.sto [Dr] {t : Nat} {a x : Operand} {ty : TypeId} {pos : String} {after : Array Edge} {b q : Nat} {tx : T} {i : TyI} (hT : tab t = some i) (ha : E.opd a = some (.ptr b q)) (hx : E.opd x = some tx) (hl : (flat tx).length = i.sz) (k : VT P tab im ops l E F (W ++ [(b, q, flat tx)]) (fl ++ [false]) K) : VT P tab im ops (⟨none, .store t a x, ty, pos, after, none⟩ :: l) E F W fl K := fun E2 he => by
  obtain ⟨r, fs, ws, E', F', h1, h2, E1, h3, h4⟩ := k _ he
  refine ⟨⟨.v undef, none⟩ :: r, false :: fs, some (b, q, flat tx) :: ws, E', F', .sto rfl rfl rfl hT (he.opd ha) (he.opd hx) hl h1, ?_, E1, h3, ?_⟩
  · simpa using h2
  · simpa using h4
theorem run_runT [Dr] {f : Bool} {l1 l2 : List Oper} {E1 : Env} {H1 : Hp} {H0 : Hp} {r1 : List Stp} (h : Run P tab im ops l1 E H0 r1 E1 H1) (hno : H1 = H0) (hf : H0 = visH f F) : ∀ {r : List Stp} {fs : List Bool} {ws : List (Option Wr)} {E' : Env} {F' : Hp}, RunT P tab im ops l2 E1 F r fs ws E' F' →
    ∃ r' fs' ws', RunT P tab im ops (l1 ++ l2) E F r' fs' ws' E' F' ∧ ws'.filterMap (·) = ws.filterMap (·) ∧ fs' = List.replicate l1.length f ++ fs := by
  induction h with
  | nil E H => intro r fs ws E' F' k; exact ⟨r, fs, ws, k, rfl, rfl⟩
  | @cons o l E H s r1 E1 H1 h k ih =>
    intro r fs ws E' F' k2
    obtain ⟨x, hx⟩ := run_ext k
    have e : newsOf s.nb = [] := by
      rw [hno, List.append_assoc] at hx
      have := List.append_cancel_left (show H ++ [] = H ++ (newsOf s.nb ++ x) by rw [List.append_nil]; exact hx)
      exact (List.append_eq_nil_iff.1 this.symm).1
    rw [e, List.append_nil] at k ih
    obtain ⟨r', fs', ws', g1, g2, g3⟩ := ih hno hf k2
    refine ⟨s :: r', f :: fs', none :: ws', .one (hf ▸ h) (by rw [e, List.append_nil]; exact g1), by simpa using g2, by rw [g3]; rfl⟩
theorem VT.seg [Dr] {l1 l2 : List Oper} (f : Bool) (hl : l = l1 ++ l2) (h : VX true P tab im (ops.toList.map (·.dst)) l1 E (visH f F) fun E1 H1 => H1 = visH f F ∧ VT P tab im ops l2 E1 F W (fl ++ List.replicate l1.length f) K) : VT P tab im ops l E F W fl K := fun E2 he => by
  subst hl
  obtain ⟨r1, E1, H1, hr, E3, he3, hh, hv⟩ := vcDraw_run (ops := ops) _ _ _ (h E2 he)
  obtain ⟨r, fs, ws, E', F', k1, k2, E4, k3, k4⟩ := hv _ he3
  obtain ⟨r', fs', ws', g1, g2, g3⟩ := run_runT (f := f) hr hh rfl k1
  exact ⟨r', fs', ws', E', F', g1, by rw [g2]; exact k2, E4, k3, by rw [g2, g3, ← List.append_assoc]; exact k4⟩
end
section
variable {z : Bool} {P : Program} {tab : Tab} {n lb : Nat} {E : Env} {H : Hp} {QT : Exit → Env → Hp → Prop}
theorem VC.drwTN [Dr] {id : Nat} {l l2 : List Oper} (hT : TabOk P tab) (im : List Nat) (l1 : List Oper) (fl : List Bool) (hl : l = l1 ++ l2) (hm : P.follows .mixedOrders = true) (hB : drawB n l1.length l = true) (hch : chainB l l1.length = true) (hlt : lateB l fl = true) (h : VT P tab im l.toArray l1 E H [] [] fun E H f => f = fl ∧ VX false P tab im (l.map (·.dst)) l2 E H (QT .normal)) : VC z P n lb (.region id l.toArray true) QT E H := by
  have e1 : l.take l1.length = l1 := by rw [hl, List.take_left]
  have e2 : l.drop l1.length = l2 := by rw [hl, List.drop_left]
  obtain ⟨r, fs, ws, E', F', h1, h2, E1, h3, h5, h4⟩ := h E (Sub.refl E)
  have h5' : fs = fl := by simpa using h5
  refine VC.eqv (VC.drawT hT im l1.length hm hB hch ⟨r, fs, ws, E', F', by rw [e1]; exact h1, by rw [h5']; exact hlt, by simpa using h2, ?_⟩)
  rw [e2]
  have := h4 E' h3
  simpa using this
theorem VC.drwT [Dr] {id : Nat} {l l2 : List Oper} {c : Code} (hT : TabOk P tab) (im : List Nat) (l1 : List Oper) (fl : List Bool) (hl : l = l1 ++ l2) (hm : P.follows .mixedOrders = true) (hB : drawB n l1.length l = true) (hch : chainB l l1.length = true) (hlt : lateB l fl = true) (h : VT P tab im l.toArray l1 E H [] [] fun E H f => f = fl ∧ VX false P tab im (l.map (·.dst)) l2 E H fun E H => VC z P n lb c QT E H) : VC z P n lb (.seq (.region id l.toArray true) c) QT E H := VC.seq (VC.drwTN hT im l1 fl hl hm hB hch hlt h)
end
end
section
open Go.RowKit
set_option maxRecDepth 100000
set_option maxHeartbeats 2000000
def keyO (code mods : Int) : Ot := ⟨2, 1, 0, [1048577, 0, code, mods, 0, 0, 0, 0, 5], [], []⟩
theorem key55_p (code mods : Int) : CallP Tryz.prog 11 [I64 code, I64 mods] (otT (keyO code mods)) := by
  refine CallP.intro2 au_pu au_pu ?_
  refine CallT.intro tab_ok Tryz.func11 rfl (by kernel_rfl) (Nat.le_of_ble_eq_true rfl) ?_
  refine VC.reg tab_ok [] rfl ?_
  refine VX.new rfl rfl ?_
  refine VX.nil ?_
  refine VC.reg tab_ok [] rfl ?_
  iterate 2 refine VX.meek rfl ?_
  refine VX.new rfl rfl ?_
  refine VX.meek rfl ?_
  refine VX.store rfl rfl rfl rfl rfl au_s rfl ?_
  refine VX.nil ?_
  refine VC.ret ?_
  exact ⟨trivial, _, rfl, Cv.agg au_fr⟩
theorem text_p (e : Ed) : CallP Tryz.prog 12 [edT e] (strT e.c.bf.text) := by
  have hp := ed_pure e
  have hte := btext_p e.c.bf
  refine CallP.intro2 au_pu au_pu ?_
  refine CallT.intro tab_ok Tryz.func12 rfl (by kernel_rfl) (Nat.le_of_ble_eq_true rfl) ?_
  refine VC.reg tab_ok [1] rfl ?_
  refine VX.newI rfl rfl ?_
  refine VX.meek rfl ?_
  refine VX.nil ?_
  refine VC.reg tab_ok [] rfl ?_
  refine VX.meek rfl ?_
  first | refine VX.meek rfl ?_ | refine VX.loadI rfl rfl au_l ?_ | refine VX.loadP rfl rfl rfl au_l ?_
  refine VX.callP0 rfl rfl rfl (hte) ?_
  refine VX.meek rfl ?_
  refine VX.nil ?_
  refine VC.ret ?_
  exact ⟨trivial, _, rfl, Cv.eq rfl rfl⟩
theorem curs_p (e : Ed) : CallP Tryz.prog 13 [edT e] (I64 (e.c.cur : Nat)) := by
  have hp := ed_pure e
  refine CallP.intro2 au_pu au_pu ?_
  refine CallT.intro tab_ok Tryz.func13 rfl (by kernel_rfl) (Nat.le_of_ble_eq_true rfl) ?_
  refine VC.reg tab_ok [1] rfl ?_
  refine VX.newI rfl rfl ?_
  refine VX.meek rfl ?_
  refine VX.nil ?_
  refine VC.reg tab_ok [] rfl ?_
  iterate 2 refine VX.meek rfl ?_
  first | refine VX.meek rfl ?_ | refine VX.loadI rfl rfl au_l ?_ | refine VX.loadP rfl rfl rfl au_l ?_
  refine VX.meek rfl ?_
  refine VX.nil ?_
  refine VC.ret ?_
  exact ⟨trivial, _, rfl, Cv.eq rfl rfl⟩
theorem right55_p (s : List UInt8) (hs : s.length ≤ 100000) : CallP Tryz.prog 8 [strT s] (BL (rightB s)) := by
  refine CallP.intro2 au_pu au_pu ?_
  refine CallT.intro tab_ok Tryz.func8 rfl (by kernel_rfl) (Nat.le_of_ble_eq_true rfl) ?_
  refine VC.reg tab_ok [] rfl ?_
  refine VX.meek rfl ?_
  refine VX.nil ?_
  refine VC.seq ?_
  refine VC.reg tab_ok [] rfl ?_
  refine VX.meek rfl ?_
  refine VX.nil ?_
  refine VC.block ?_
  refine VC.loopS (σ := Nat) (fun j => s.length - j) (fun j => j ≤ s.length ∧ rightB (s.take j) = true) (fun j => [(3, I64 (j : Nat))]) (fun j => []) [0] rfl (0) ?_ ?_ ?_
  · refine ⟨[], rfl, by first | trivial | decide, by first | rfl | (simp only [noO, Bool.and_true, Bool.and_eq_true]; first | assumption | (refine ⟨?_, ?_⟩ <;> assumption)) | (simp only [noO, *, Bool.and_true, Bool.true_and, Bool.and_self]; done), ?_, ?_⟩ <;> (repeat' first | exact trivial | exact CvB_n | exact CvB_d | exact CvB_o rfl | refine CvE_app ?_ ?_ | refine CvE_cons rfl ?_ ?_ | refine CvH_cons ?_ ?_ | refine CvB_c rfl ?_ | fail) <;> first | exact au_v | (exact CvL.pure rfl)
  · exact ⟨Nat.zero_le _, rfl⟩
  rintro j hj
  refine VC.seq ?_
  refine VC.reg tab_ok [] rfl ?_
  iterate 2 refine VX.meek rfl ?_
  refine VX.meek (t := I64 (s.length : Nat)) rfl ?_
  refine VX.meek rfl ?_
  refine VX.nil ?_
  refine VC.cond rfl (fun hc0 => ?_) (fun hc0 => ?_)
  · (try simp only [au_std] at hc0); obtain ⟨hj1, hj2⟩ := hj; have hat : s[j]? = some (s[j]?.getD 0) := (by rw [List.getElem?_eq_getElem (by omega)]; rfl); have hnx : rightB (s.take (j + 1)) = (okB (s[j]?.getD 0)) := (by unfold rightB at *; rw [List.take_add_one, List.all_append, hj2, hat]; simp)
    refine VC.skip ?_
    refine VC.seq ?_
    refine VC.block ?_
    refine VC.reg tab_ok [] rfl ?_
    iterate 2 refine VX.meek rfl ?_
    refine VX.idxY rfl rfl rfl rfl rfl hat ?_
    iterate 2 refine VX.meek rfl ?_
    refine' VX.merge (d := 25) [_, _, _, _, _, _, _, _, _, _, _] rfl ?_ rfl ?_
    rotate_left
    · refine VX.guard rfl rfl (fun hb4_4 => ?_) (fun hb4_4 => ?_)
      · have ghb4_4 := hb4_4
        try simp only [au_std, Bool.not_true, Bool.not_false] at ghb4_4
        refine VX.meek rfl ?_
        refine VX.guardT rfl rfl hb4_4 ?_
        refine VX.meek rfl ?_
        refine VX.guardT rfl rfl hb4_4 ?_
        refine VX.idxY rfl rfl rfl rfl rfl hat ?_
        refine VX.guardT rfl rfl hb4_4 ?_
        refine VX.meek rfl ?_
        refine VX.guardT rfl rfl hb4_4 ?_
        refine VX.meek rfl ?_
        refine' VX.merge (d := 24) [_, _, _, _, _] rfl ?_ rfl ?_
        rotate_left
        · refine VX.guard rfl rfl (fun hb4_9 => ?_) (fun hb4_9 => ?_)
          · have ghb4_9 := hb4_9
            try simp only [au_std, Bool.not_true, Bool.not_false] at ghb4_9
            refine VX.meek rfl ?_
            refine VX.guardT rfl rfl hb4_9 ?_
            refine VX.meek rfl ?_
            refine VX.guardT rfl rfl hb4_9 ?_
            refine VX.idxY rfl rfl rfl rfl rfl hat ?_
            refine VX.guardT rfl rfl hb4_9 ?_
            refine VX.meek rfl ?_
            refine VX.guardT rfl rfl hb4_4 ?_
            refine VX.pickO rfl (fun _ => rfl) ?_
            exact VX.nil ⟨rfl, rfl⟩
          · refine VX.guardF rfl rfl hb4_9 ?_
            iterate 2 refine VX.guardF rfl rfl hb4_9 ?_
            refine VX.guardT rfl rfl hb4_4 ?_
            exact VX.pickO rfl (fun h => absurd (h.symm.trans hb4_9) (by decide)) (VX.nil ⟨rfl, rfl⟩)
        refine VX.pickA rfl (fun _ => rfl) ?_
        exact VX.nil ⟨rfl, rfl⟩
      · refine VX.guardF rfl rfl hb4_4 ?_
        iterate 3 refine VX.guardF rfl rfl hb4_4 ?_
        iterate 4 refine VX.guardU rfl rfl ?_
        refine VX.guardF rfl rfl hb4_4 ?_
        exact VX.pickA rfl (fun h => absurd (h.symm.trans hb4_4) (by decide)) (VX.nil ⟨rfl, rfl⟩)
    refine VX.nil ?_
    refine VC.cond rfl (fun hc1 => ?_) (fun hc1 => ?_)
    · (try simp only [au_std] at hc1); have e1 : rightB s = false := rightB_not (i := j) (by omega) (by unfold okB; simp; omega)
      refine VC.reg tab_ok [] rfl ?_
      refine VX.meek rfl ?_
      refine VX.nil ?_
      refine VC.ret ?_
      exact ⟨trivial, _, rfl, Cv.eq (by rw [e1]; rfl) rfl⟩
    · (try simp only [au_std] at hc1); have e1 : rightB (s.take (j + 1)) = true := (by rw [hnx]; unfold okB; simp; omega)
      refine VC.skip ?_
      refine VC.regN tab_ok [] rfl ?_
      refine VX.meek rfl ?_
      first | refine VX.add rfl rfl (by omega) ?_ | refine VX.meek rfl ?_
      refine VX.meek rfl ?_
      refine VX.nil ?_
      refine ⟨j + 1, by (try dsimp only); omega, ?_, (by refine ⟨[], rfl, by first | trivial | decide, by first | rfl | (simp only [noO, Bool.and_true, Bool.and_eq_true]; first | assumption | (refine ⟨?_, ?_⟩ <;> assumption)) | (simp only [noO, *, Bool.and_true, Bool.true_and, Bool.and_self]; done), ?_, ?_⟩ <;> (repeat' first | exact trivial | exact CvB_n | exact CvB_d | exact CvB_o rfl | refine CvE_app ?_ ?_ | refine CvE_cons rfl ?_ ?_ | refine CvH_cons ?_ ?_ | refine CvB_c rfl ?_ | fail) <;> first | exact au_v | (first | exact CvL.pure rfl | exact Cv.pure rfl))⟩
      exact ⟨by omega, e1⟩
  · (try simp only [au_std] at hc0); obtain ⟨hj1, hj2⟩ := hj; obtain rfl : j = s.length := (by omega)
    refine VC.exit ?_
    refine VC.reg tab_ok [] rfl ?_
    refine VX.meek rfl ?_
    refine VX.nil ?_
    refine VC.ret ?_
    exact ⟨trivial, _, rfl, Cv.eq (by rw [List.take_length] at hj2; rw [hj2]; rfl) rfl⟩
/- the example -/
def ex0 : Ed := newEd 1048576 8 6 []
def ex1 : Ed := (ex0.step (keyO 65 0)).1
def ex2 : Ed := (ex1.step (keyO 66 0)).1
def exR : List Rq := (ex1.step (keyO 66 0)).2
def exU : Ed := (ex2.step (keyO 122 4)).1
theorem keyO_ok (code mods : Int) (h1 : -4294967296 ≤ code ∧ code ≤ 4294967296) (h2 : -4294967296 ≤ mods ∧ mods ≤ 4294967296) : nOk (keyO code mods).n := by
  intro v hv
  unfold keyO at hv
  simp only [List.mem_cons, List.mem_singleton, List.not_mem_nil, or_false] at hv
  rcases hv with h | h | h | h | h | h | h | h | h <;> omega
theorem ex_text : ex2.c.bf.text = [65, 66] ∧ ex2.c.cur = 2 ∧ exU.c.bf.text = [65] := by refine ⟨?_, ?_, ?_⟩ <;> kernel_rfl
theorem ex_asks : exR = [⟨36, [1048577, 1048578, 0, 5, 1], [66, 32], []⟩, ⟨30, [1048577, 1048578], [], [4, 5, 4, 1]⟩] := by kernel_rfl
theorem awake55_p : CallP Tryz.prog 7 [] (BL true) := by
  have w0 : ex0.W := newEd_W (by omega) (by simp)
  have hnew := ednew_p 1 1048576 (by omega) 8 6 [] (by omega) (by omega) (by omega) (by simp) rfl
  obtain ⟨w1, c1, d1, -⟩ : ex1.W ∧ 0 ≤ ex1.cnt ∧ ex1.cnt ≤ ex0.cnt + 200 ∧ _ := step_ok w0 (keyO 65 0) (by show (0 : Int) ≤ 6; omega)
  obtain ⟨w2, c2, d2, -⟩ : ex2.W ∧ 0 ≤ ex2.cnt ∧ ex2.cnt ≤ ex1.cnt + 200 ∧ _ := step_ok w1 (keyO 66 0) c1
  have hc0 : ex0.cnt = 6 := rfl
  have h1 := step_p ex0 (keyO 65 0) w0 (by omega) (keyO_ok _ _ (by omega) (by omega)) (by simp [keyO])
  have h2 := step_p ex1 (keyO 66 0) w1 (by omega) (keyO_ok _ _ (by omega) (by omega)) (by simp [keyO])
  have h3 := step_p ex2 (keyO 122 4) w2 (by omega) (keyO_ok _ _ (by omega) (by omega)) (by simp [keyO])
  have k1 := key55_p 65 0
  have k2 := key55_p 66 0
  have k3 := key55_p 122 4
  obtain ⟨t1, t2, t3⟩ := ex_text
  have t4 := ex_asks
  have hp0 := ed_pure ex0
  change StepT ex0 _ (ex1, (ex0.step (keyO 65 0)).2) at h1
  change StepT ex1 _ (ex2, exR) at h2
  change StepT ex2 _ (exU, (ex2.step (keyO 122 4)).2) at h3
  change CallP _ _ _ (.tup [edT ex0, rqT (newR 1048576 8 6), I64 0]) at hnew
  rw [newC_eq] at hnew
  have hnp := newC_pure 1048576 8 6
  rw [t4] at h2
  have hx2 := text_p ex2
  have hxU := text_p exU
  have hcu := curs_p ex2
  rw [t1] at hx2
  rw [t2] at hcu
  rw [t3] at hxU
  generalize (ex0.step (keyO 65 0)).2 = r1 at h1
  generalize (ex2.step (keyO 122 4)).2 = r3 at h3
  generalize newC 1048576 8 6 = nc at *
  have hr1 := encL_pure cRq r1
  have hr3 := encL_pure cRq r3
  have hp1 := ed_pure ex1
  have hp2 := ed_pure ex2
  have hpU := ed_pure exU
  clear w0 w1 w2 c1 c2 d1 d2 hc0 t1 t2 t3 t4
  generalize ex0 = e0 at *
  generalize ex1 = e1 at *
  generalize ex2 = e2 at *
  generalize exU = eU at *
  refine CallP.intro2 au_pu au_pu ?_
  refine CallT.intro tab_ok Tryz.func7 rfl (by kernel_rfl) (Nat.le_of_ble_eq_true rfl) ?_
  refine VC.reg tab_ok [] rfl ?_
  refine VX.meek rfl ?_
  refine VX.nil ?_
  refine VC.reg tab_ok [] rfl ?_
  refine VX.callP0 rfl rfl rfl (hnew) ?_
  iterate 4 refine VX.meek rfl ?_
  refine VX.new rfl rfl ?_
  refine VX.store rfl rfl rfl rfl rfl au_s rfl ?_
  iterate 2 refine VX.meek rfl ?_
  refine VX.nil ?_
  refine VC.view ([(1, .ptr 0 0)]) ([.c (edC e0)]) [2, 3] rfl (by refine ⟨[some 0], rfl, by first | trivial | decide, by first | rfl | (simp only [noO, Bool.and_true, Bool.and_eq_true]; first | assumption | (refine ⟨?_, ?_⟩ <;> assumption)) | (simp only [noO, *, Bool.and_true, Bool.true_and, Bool.and_self]; done), ?_, ?_⟩ <;> (repeat' first | exact trivial | exact CvB_n | exact CvB_d | exact CvB_o rfl | refine CvE_app ?_ ?_ | refine CvE_cons rfl ?_ ?_ | refine CvH_cons ?_ ?_ | refine CvB_c rfl ?_ | fail) <;> first | exact au_v | (first | exact CvL.eq rfl (ed_pure _) | exact Cv.pure (by simp only [T.pure, hnp]) | exact Cv.pure rfl)) ?_
  refine VC.drwT tab_ok [] [_, _, _, _, _, _, _] [true, true, true, true, true, false, false] rfl (by kernel_rfl) (by kernel_rfl) (by kernel_rfl) (by kernel_rfl) ?_
  refine VT.seg true (l1 := [_, _, _, _, _]) rfl ?_
  first | refine VX.meek rfl ?_ | refine VX.loadI rfl rfl au_l ?_ | refine VX.loadP rfl rfl rfl au_l ?_
  refine VX.callP0 rfl rfl rfl (k1) ?_
  refine VX.callP0 rfl rfl rfl (h1) ?_
  iterate 2 refine VX.meek rfl ?_
  refine VX.nil ⟨rfl, ?_⟩
  refine VT.seg false (l1 := [_]) rfl ?_
  refine VX.meek rfl ?_
  refine VX.nil ⟨rfl, ?_⟩
  refine VT.sto rfl rfl rfl rfl ?_
  refine VT.nil (⟨Nat.le_of_ble_eq_true rfl, rfl, trivial⟩) ⟨rfl, ?_⟩
  refine VX.nil ?_
  refine VC.view ([(1, .ptr 0 0)]) ([.c (edC e1)]) [2, 3] rfl (by refine ⟨[some 0], rfl, by first | trivial | decide, by first | rfl | (simp only [noO, Bool.and_true, Bool.and_eq_true]; first | assumption | (refine ⟨?_, ?_⟩ <;> assumption)) | (simp only [noO, *, Bool.and_true, Bool.true_and, Bool.and_self]; done), ?_, ?_⟩ <;> (repeat' first | exact trivial | exact CvB_n | exact CvB_d | exact CvB_o rfl | refine CvE_app ?_ ?_ | refine CvE_cons rfl ?_ ?_ | refine CvH_cons ?_ ?_ | refine CvB_c rfl ?_ | fail) <;> first | exact au_v | (first | exact CvL.eq rfl (ed_pure _) | exact Cv.pure (by simp only [T.pure, hnp]) | exact Cv.pure rfl)) ?_
  refine VC.drwT tab_ok [] [_, _, _, _, _, _, _] [true, true, true, true, true, false, false] rfl (by kernel_rfl) (by kernel_rfl) (by kernel_rfl) (by kernel_rfl) ?_
  refine VT.seg true (l1 := [_, _, _, _, _]) rfl ?_
  first | refine VX.meek rfl ?_ | refine VX.loadI rfl rfl au_l ?_ | refine VX.loadP rfl rfl rfl au_l ?_
  refine VX.callP0 rfl rfl rfl (k2) ?_
  refine VX.callP0 rfl rfl rfl (h2) ?_
  iterate 2 refine VX.meek rfl ?_
  refine VX.nil ⟨rfl, ?_⟩
  refine VT.seg false (l1 := [_]) rfl ?_
  refine VX.meek rfl ?_
  refine VX.nil ⟨rfl, ?_⟩
  refine VT.sto rfl rfl rfl rfl ?_
  refine VT.nil (⟨Nat.le_of_ble_eq_true rfl, rfl, trivial⟩) ⟨rfl, ?_⟩
  refine VX.meek rfl ?_
  refine VX.nil ?_
  refine VC.view ([(1, .ptr 0 0)]) ([.c (edC e2)]) [2, 3, 4] rfl (by refine ⟨[some 0], rfl, by first | trivial | decide, by first | rfl | (simp only [noO, Bool.and_true, Bool.and_eq_true]; first | assumption | (refine ⟨?_, ?_⟩ <;> assumption)) | (simp only [noO, *, Bool.and_true, Bool.true_and, Bool.and_self]; done), ?_, ?_⟩ <;> (repeat' first | exact trivial | exact CvB_n | exact CvB_d | exact CvB_o rfl | refine CvE_app ?_ ?_ | refine CvE_cons rfl ?_ ?_ | refine CvH_cons ?_ ?_ | refine CvB_c rfl ?_ | fail) <;> first | exact au_v | (first | exact CvL.eq rfl (ed_pure _) | exact Cv.pure (by simp only [T.pure, hnp]) | exact Cv.pure rfl)) ?_
  refine VC.drwS tab_ok [] [_, _, _, _, _, _, _, _] (_) rfl (by kernel_rfl) (by kernel_rfl) (by kernel_rfl) (seen_refl _) ?_
  refine VS.seg (l1 := [_, _, _, _, _, _]) rfl ?_
  first | refine VX.meek rfl ?_ | refine VX.loadI rfl rfl au_l ?_ | refine VX.loadP rfl rfl rfl au_l ?_
  refine VX.callP0 rfl rfl rfl (k3) ?_
  refine VX.callP0 rfl rfl rfl (h3) ?_
  iterate 3 refine VX.meek rfl ?_
  refine VX.nil ?_
  refine VS.hid rfl ?_
  refine VS.sto rfl rfl rfl rfl ?_
  refine VS.nil (⟨rfl, Nat.le_of_ble_eq_true rfl, rfl, trivial⟩) ?_
  refine VX.meek rfl ?_
  refine VX.nil ?_
  refine VC.view ([(1, .ptr 0 0), (5, .ptr 1 0)]) ([.c (edC e2), .c (edC eU)]) [2, 3, 4] rfl (by refine ⟨[some 0, some 1], rfl, by first | trivial | decide, by first | rfl | (simp only [noO, Bool.and_true, Bool.and_eq_true]; first | assumption | (refine ⟨?_, ?_⟩ <;> assumption)) | (simp only [noO, *, Bool.and_true, Bool.true_and, Bool.and_self]; done), ?_, ?_⟩ <;> (repeat' first | exact trivial | exact CvB_n | exact CvB_d | exact CvB_o rfl | refine CvE_app ?_ ?_ | refine CvE_cons rfl ?_ ?_ | refine CvH_cons ?_ ?_ | refine CvB_c rfl ?_ | fail) <;> first | exact au_v | (first | exact CvL.eq rfl (ed_pure _) | exact Cv.pure (by simp only [T.pure, hnp]) | exact Cv.pure rfl)) ?_
  refine VC.reg tab_ok [] rfl ?_
  iterate 3 refine VX.meek rfl ?_
  refine' VX.merge (d := 36) [_, _, _, _] rfl ?_ rfl ?_
  rotate_left
  · refine VX.guard rfl rfl (fun hb5_2 => ?_) (fun hb5_2 => ?_)
    · have ghb5_2 := hb5_2
      try simp only [au_std, Bool.not_true, Bool.not_false] at ghb5_2
      refine VX.meek rfl ?_
      refine VX.guardT rfl rfl hb5_2 ?_
      refine VX.meek rfl ?_
      refine VX.guardT rfl rfl hb5_2 ?_
      refine VX.meek rfl ?_
      refine VX.pickA rfl (fun _ => rfl) ?_
      exact VX.nil ⟨rfl, rfl⟩
    · refine VX.guardF rfl rfl hb5_2 ?_
      refine VX.guardF rfl rfl hb5_2 ?_
      exact VX.pickA rfl (fun h => absurd (h.symm.trans hb5_2) (by decide)) (VX.nil ⟨rfl, rfl⟩)
  refine VX.meek rfl ?_
  refine' VX.merge (d := 41) [_, _, _, _] rfl ?_ rfl ?_
  rotate_left
  · refine VX.guard rfl rfl (fun hb5_7 => ?_) (fun hb5_7 => ?_)
    · have ghb5_7 := hb5_7
      try simp only [au_std, Bool.not_true, Bool.not_false] at ghb5_7
      first | refine VX.meek rfl ?_ | refine VX.loadI rfl rfl au_l ?_ | refine VX.loadP rfl rfl rfl au_l ?_
      refine VX.guardT rfl rfl hb5_7 ?_
      refine VX.callP0 rfl rfl rfl (hx2) ?_
      refine VX.guardT rfl rfl hb5_7 ?_
      refine VX.meek rfl ?_
      refine VX.pickA rfl (fun _ => rfl) ?_
      exact VX.nil ⟨rfl, rfl⟩
    · refine VX.guardF rfl rfl hb5_7 ?_
      refine VX.guardF rfl rfl hb5_7 ?_
      exact VX.pickA rfl (fun h => absurd (h.symm.trans hb5_7) (by decide)) (VX.nil ⟨rfl, rfl⟩)
  refine VX.meek rfl ?_
  refine' VX.merge (d := 46) [_, _, _, _] rfl ?_ rfl ?_
  rotate_left
  · refine VX.guard rfl rfl (fun hb5_12 => ?_) (fun hb5_12 => ?_)
    · have ghb5_12 := hb5_12
      try simp only [au_std, Bool.not_true, Bool.not_false] at ghb5_12
      first | refine VX.meek rfl ?_ | refine VX.loadI rfl rfl au_l ?_ | refine VX.loadP rfl rfl rfl au_l ?_
      refine VX.guardT rfl rfl hb5_12 ?_
      refine VX.callP0 rfl rfl rfl (hcu) ?_
      refine VX.guardT rfl rfl hb5_12 ?_
      refine VX.meek rfl ?_
      refine VX.pickA rfl (fun _ => rfl) ?_
      exact VX.nil ⟨rfl, rfl⟩
    · refine VX.guardF rfl rfl hb5_12 ?_
      refine VX.guardF rfl rfl hb5_12 ?_
      exact VX.pickA rfl (fun h => absurd (h.symm.trans hb5_12) (by decide)) (VX.nil ⟨rfl, rfl⟩)
  refine VX.meek rfl ?_
  refine' VX.merge (d := 51) [_, _, _, _] rfl ?_ rfl ?_
  rotate_left
  · refine VX.guard rfl rfl (fun hb5_17 => ?_) (fun hb5_17 => ?_)
    · have ghb5_17 := hb5_17
      try simp only [au_std, Bool.not_true, Bool.not_false] at ghb5_17
      refine VX.meek rfl ?_
      refine VX.guardT rfl rfl hb5_17 ?_
      refine VX.meek rfl ?_
      refine VX.guardT rfl rfl hb5_17 ?_
      refine VX.meek rfl ?_
      refine VX.pickA rfl (fun _ => rfl) ?_
      exact VX.nil ⟨rfl, rfl⟩
    · refine VX.guardF rfl rfl hb5_17 ?_
      refine VX.guardF rfl rfl hb5_17 ?_
      exact VX.pickA rfl (fun h => absurd (h.symm.trans hb5_17) (by decide)) (VX.nil ⟨rfl, rfl⟩)
  refine VX.meek rfl ?_
  refine' VX.merge (d := 58) [_, _, _, _, _, _] rfl ?_ rfl ?_
  rotate_left
  · refine VX.guard rfl rfl (fun hb5_22 => ?_) (fun hb5_22 => ?_)
    · have ghb5_22 := hb5_22
      try simp only [au_std, Bool.not_true, Bool.not_false] at ghb5_22
      refine VX.meek rfl ?_
      refine VX.guardT rfl rfl hb5_22 ?_
      first | refine VX.idxI (m := 0) rfl rfl rfl rfl rfl rfl (by omega) ?_ | refine VX.idxO (m := 0) rfl rfl rfl rfl rfl rfl rfl (by omega) ?_ | refine VX.meek rfl ?_
      refine VX.guardT rfl rfl hb5_22 ?_
      refine VX.meek rfl ?_
      refine VX.guardT rfl rfl hb5_22 ?_
      first | refine VX.meek rfl ?_ | refine VX.loadI rfl rfl au_l ?_ | refine VX.loadP rfl rfl rfl au_l ?_
      refine VX.guardT rfl rfl hb5_22 ?_
      refine VX.meek rfl ?_
      refine VX.pickA rfl (fun _ => rfl) ?_
      exact VX.nil ⟨rfl, rfl⟩
    · refine VX.guardF rfl rfl hb5_22 ?_
      iterate 3 refine VX.guardF rfl rfl hb5_22 ?_
      exact VX.pickA rfl (fun h => absurd (h.symm.trans hb5_22) (by decide)) (VX.nil ⟨rfl, rfl⟩)
  refine VX.meek rfl ?_
  refine' VX.merge (d := 66) [_, _, _, _, _, _, _] rfl ?_ rfl ?_
  rotate_left
  · refine VX.guard rfl rfl (fun hb5_29 => ?_) (fun hb5_29 => ?_)
    · have ghb5_29 := hb5_29
      try simp only [au_std, Bool.not_true, Bool.not_false] at ghb5_29
      refine VX.meek rfl ?_
      refine VX.guardT rfl rfl hb5_29 ?_
      first | refine VX.idxI rfl rfl rfl rfl rfl rfl (by omega) ?_ | refine VX.idxO0 rfl rfl rfl rfl rfl rfl rfl (by omega) ?_ | refine VX.idxO0 rfl rfl rfl rfl rfl rfl au_z (by omega) ?_ | refine VX.idxO rfl rfl rfl rfl rfl rfl rfl (by omega) ?_ | refine VX.idxI rfl rfl rfl rfl rfl au_z (by omega) ?_ | refine VX.idxO rfl rfl rfl rfl rfl rfl au_z (by omega) ?_ | refine VX.meek rfl ?_
      refine VX.guardT rfl rfl hb5_29 ?_
      refine VX.meek rfl ?_
      refine VX.guardT rfl rfl hb5_29 ?_
      first | refine VX.meek rfl ?_ | refine VX.loadI rfl rfl au_l ?_ | refine VX.loadP rfl rfl rfl au_l ?_
      refine VX.guardT rfl rfl hb5_29 ?_
      refine VX.meek rfl ?_
      refine VX.guardT rfl rfl hb5_29 ?_
      refine VX.meek rfl ?_
      refine VX.pickA rfl (fun _ => rfl) ?_
      exact VX.nil ⟨rfl, rfl⟩
    · refine VX.guardF rfl rfl hb5_29 ?_
      iterate 4 refine VX.guardF rfl rfl hb5_29 ?_
      exact VX.pickA rfl (fun h => absurd (h.symm.trans hb5_29) (by decide)) (VX.nil ⟨rfl, rfl⟩)
  refine VX.meek rfl ?_
  refine' VX.merge (d := 75) [_, _, _, _, _, _, _, _] rfl ?_ rfl ?_
  rotate_left
  · refine VX.guard rfl rfl (fun hb5_37 => ?_) (fun hb5_37 => ?_)
    · have ghb5_37 := hb5_37
      try simp only [au_std, Bool.not_true, Bool.not_false] at ghb5_37
      refine VX.meek rfl ?_
      refine VX.guardT rfl rfl hb5_37 ?_
      first | refine VX.idxI rfl rfl rfl rfl rfl rfl (by omega) ?_ | refine VX.idxO0 rfl rfl rfl rfl rfl rfl rfl (by omega) ?_ | refine VX.idxO0 rfl rfl rfl rfl rfl rfl au_z (by omega) ?_ | refine VX.idxO rfl rfl rfl rfl rfl rfl rfl (by omega) ?_ | refine VX.idxI rfl rfl rfl rfl rfl au_z (by omega) ?_ | refine VX.idxO rfl rfl rfl rfl rfl rfl au_z (by omega) ?_ | refine VX.meek rfl ?_
      refine VX.guardT rfl rfl hb5_37 ?_
      refine VX.meek rfl ?_
      refine VX.guardT rfl rfl hb5_37 ?_
      first | refine VX.meek rfl ?_ | refine VX.loadI rfl rfl au_l ?_ | refine VX.loadP rfl rfl rfl au_l ?_
      refine VX.guardT rfl rfl hb5_37 ?_
      first | refine VX.idxI (m := 0) rfl rfl rfl rfl rfl rfl (by omega) ?_ | refine VX.idxO (m := 0) rfl rfl rfl rfl rfl rfl rfl (by omega) ?_ | refine VX.meek rfl ?_
      refine VX.guardT rfl rfl hb5_37 ?_
      first | refine VX.meek rfl ?_ | refine VX.loadI rfl rfl au_l ?_ | refine VX.loadP rfl rfl rfl au_l ?_
      refine VX.guardT rfl rfl hb5_37 ?_
      refine VX.meek rfl ?_
      refine VX.pickA rfl (fun _ => rfl) ?_
      exact VX.nil ⟨rfl, rfl⟩
    · refine VX.guardF rfl rfl hb5_37 ?_
      iterate 5 refine VX.guardF rfl rfl hb5_37 ?_
      exact VX.pickA rfl (fun h => absurd (h.symm.trans hb5_37) (by decide)) (VX.nil ⟨rfl, rfl⟩)
  refine VX.meek rfl ?_
  refine' VX.merge (d := 80) [_, _, _, _] rfl ?_ rfl ?_
  rotate_left
  · refine VX.guard rfl rfl (fun hb5_46 => ?_) (fun hb5_46 => ?_)
    · have ghb5_46 := hb5_46
      try simp only [au_std, Bool.not_true, Bool.not_false] at ghb5_46
      first | refine VX.meek rfl ?_ | refine VX.loadI rfl rfl au_l ?_ | refine VX.loadP rfl rfl rfl au_l ?_
      refine VX.guardT rfl rfl hb5_46 ?_
      refine VX.callP0 rfl rfl rfl (hxU) ?_
      refine VX.guardT rfl rfl hb5_46 ?_
      refine VX.meek rfl ?_
      refine VX.pickA rfl (fun _ => rfl) ?_
      exact VX.nil ⟨rfl, rfl⟩
    · refine VX.guardF rfl rfl hb5_46 ?_
      refine VX.guardF rfl rfl hb5_46 ?_
      exact VX.pickA rfl (fun h => absurd (h.symm.trans hb5_46) (by decide)) (VX.nil ⟨rfl, rfl⟩)
  refine VX.meek rfl ?_
  refine VX.nil ?_
  refine VC.ret ?_
  exact ⟨trivial, _, rfl, Cv.eq (by first | rfl | (simp [*]; done)) rfl⟩
end
section
open Go.RowKit
set_option maxRecDepth 100000
set_option maxHeartbeats 2000000
structure KE (e : Ed) (i : Nat) (c : Ec) : Prop where
  w : e.W
  m : e.made = true
  n : e.win = 1048577
  k : 0 ≤ e.cnt ∧ e.cnt ≤ 6 + 200 * i
  c : e.c = c
theorem step_key (e : Ed) (hm : e.made = true) (hn : e.win = 1048577) (code mods : Int) : (e.step (keyO code mods)).1.c = e.c.key code (mods % 256) ∧ (e.step (keyO code mods)).1.made = true ∧ (e.step (keyO code mods)).1.win = 1048577 := by
  have h1 : ¬ (e.made = false ∨ wholeB (keyO code mods) = false) := by
    rintro (h | h)
    · rw [hm] at h; cases h
    · cases h
  have h2 : ¬ (keyO code mods).kind = 1 := by show ¬ (2 : Int) = 1; omega
  have h3 : ¬ (keyO code mods).n[0]! ≠ e.win := by rw [hn]; show ¬ (1048577 : Int) ≠ 1048577; simp
  unfold Ed.step
  rw [if_neg h1, if_neg h2, if_neg h3]
  exact ⟨rfl, hm, hn⟩
theorem KE.step {e : Ed} {i : Nat} {c : Ec} (h : KE e i c) (code mods : Int) {c2 : Ec} (hc : c.key code (mods % 256) = c2) : KE (e.step (keyO code mods)).1 (i + 1) c2 := by
  obtain ⟨h1, h2, h3⟩ := step_key e h.m h.n code mods
  obtain ⟨g1, g2, g3, -⟩ := step_ok h.w (keyO code mods) h.k.1
  have := h.k
  exact ⟨g1, h2, h3, ⟨g2, by omega⟩, by rw [h1, h.c, hc]⟩
theorem KE.stepT {e : Ed} {i : Nat} {c : Ec} (h : KE e i c) (hi : i ≤ 100000) (code mods : Int) (h1 : -4294967296 ≤ code ∧ code ≤ 4294967296) (h2 : -4294967296 ≤ mods ∧ mods ≤ 4294967296) :
    CallP Tryz.prog 10 [edT e, otT (keyO code mods)] (.tup [edT (e.step (keyO code mods)).1, rqT (e.step (keyO code mods)).2]) :=
  step_p e (keyO code mods) h.w ⟨h.k.1, by have := h.k; omega⟩ (keyO_ok code mods h1 h2) (by simp [keyO])
theorem key_ty (c : Ec) (b : UInt8) (h : okB b = true) : c.key (if b.toNat = 10 then 13 else (b.toNat : Int)) 0 = c.put [b] := by
  by_cases h1 : b.toNat = 10
  · rw [if_pos h1]
    obtain rfl : b = 10 := UInt8.toNat.inj h1
    rfl
  · rw [if_neg h1]
    have h2 : 32 ≤ b.toNat ∧ b.toNat ≤ 126 := by unfold okB at h; simp [h1] at h; omega
    have hl : letN (b.toNat : Int) 0 = some b := by
      unfold letN
      rw [if_neg (by omega), if_neg (by omega)]
      congr 1
      apply UInt8.toNat.inj
      rw [UInt8.toNat_ofNat']
      omega
    unfold Ec.key
    rw [if_neg (by omega), if_neg (by omega), hl]
theorem key_undo (c : Ec) : c.key 122 (4 % 256) = c.back c.bf.undo := rfl
theorem key_redo (c : Ec) : c.key 121 (4 % 256) = c.back c.bf.redo := rfl
theorem key_erase (c : Ec) : c.key 8 (0 % 256) = c.erase := rfl
theorem new_KE (s : List UInt8) (h : s.length ≤ 4096) (w hh : Int) (hs : 4 ≤ w ∧ w ≤ 128 ∧ 6 ≤ hh ∧ hh ≤ 128) : KE (newEd 1048576 w hh s) 0 ⟨0, 0, ⟨[], [], s⟩, []⟩ :=
  ⟨newEd_W hs h, rfl, rfl, by show (0 : Int) ≤ 6 ∧ (6 : Int) ≤ 6 + 200 * ((0 : Nat) : Int); omega, rfl⟩
theorem getB {s : List UInt8} {k : Nat} (h : k < s.length) : s[k]? = some s[k]! := getE h
theorem tyE_all (s c : List UInt8) : (tyE s c s.length).bf.text = s := by show s.take s.length = s; exact List.take_length
theorem editorTypes_all (s : List UInt8) : CallP Tryz.prog 3 [strT s] (BL true) := by
  have hnew := ednew_p 1 1048576 (by omega) 40 18 [] (by omega) (by omega) (by omega) (by simp) rfl
  rw [newC_eq] at hnew
  have hnp := newC_pure 1048576 40 18
  generalize newC 1048576 40 18 = nc at *
  have k0 := new_KE [] (by simp) 40 18 (by omega)
  generalize hE0 : newEd 1048576 40 18 [] = e0 at *
  have hp0 := ed_pure e0
  clear hE0
  refine CallP.intro2 au_pu au_pu ?_
  refine CallT.intro tab_ok Tryz.func3 rfl (by kernel_rfl) (Nat.le_of_ble_eq_true rfl) ?_
  refine VC.reg tab_ok [] rfl ?_
  refine VX.meek rfl ?_
  refine VX.nil ?_
  refine VC.seq ?_
  refine VC.reg tab_ok [] rfl ?_
  refine VX.callP0 rfl rfl rfl (awake55_p) ?_
  refine VX.meek rfl ?_
  refine VX.nil ?_
  refine VC.condF rfl ?_
  refine VC.skip ?_
  refine VC.seq ?_
  refine VC.reg tab_ok [] rfl ?_
  refine VX.meek rfl ?_
  refine VX.meek (t := I64 (s.length : Nat)) rfl ?_
  iterate 2 refine VX.meek rfl ?_
  refine' VX.merge (d := 21) [_, _, _, _] rfl ?_ rfl ?_
  rotate_left
  · refine VX.guard rfl rfl (fun hb3_3 => ?_) (fun hb3_3 => ?_)
    · have ghb3_3 := hb3_3
      try simp only [au_std, Bool.not_true, Bool.not_false] at ghb3_3
      refine VX.meek rfl ?_
      refine VX.guardT rfl rfl hb3_3 ?_
      refine VX.callP0 rfl rfl rfl (right55_p s (by omega)) ?_
      refine VX.guardT rfl rfl hb3_3 ?_
      refine VX.meek rfl ?_
      refine VX.pickO rfl (fun _ => rfl) ?_
      exact VX.nil ⟨rfl, rfl⟩
    · refine VX.guardF rfl rfl hb3_3 ?_
      refine VX.guardF rfl rfl hb3_3 ?_
      exact VX.pickO rfl (fun h => absurd (h.symm.trans hb3_3) (by decide)) (VX.nil ⟨rfl, rfl⟩)
  refine VX.nil ?_
  refine VC.cond rfl (fun hc1 => ?_) (fun hc1 => ?_)
  · (try simp only [au_std] at hc1)
    refine VC.reg tab_ok [] rfl ?_
    refine VX.meek rfl ?_
    refine VX.nil ?_
    refine VC.ret ?_
    exact ⟨trivial, _, rfl, Cv.eq (by first | rfl | (simp [*]; done)) rfl⟩
  · (try simp only [au_std] at hc1); obtain ⟨h60, hri⟩ := hc1
    refine VC.skip ?_
    refine VC.reg tab_ok [] rfl ?_
    refine VX.callP0 rfl rfl rfl (hnew) ?_
    iterate 4 refine VX.meek rfl ?_
    refine VX.new rfl rfl ?_
    refine VX.store rfl rfl rfl rfl rfl au_s rfl ?_
    iterate 2 refine VX.meek rfl ?_
    refine VX.nil ?_
    refine VC.seq ?_
    refine VC.reg tab_ok [] rfl ?_
    iterate 2 refine VX.meek rfl ?_
    refine VX.nil ?_
    refine VC.view ([(3, .ptr 0 0)]) ([.c (edC e0)]) [0, 28] rfl (by refine ⟨[some 0], rfl, by first | trivial | decide, by first | rfl | (simp only [noO, Bool.and_true, Bool.and_eq_true]; first | assumption | (refine ⟨?_, ?_⟩ <;> assumption)) | (simp only [noO, *, Bool.and_true, Bool.true_and, Bool.and_self]; done), ?_, ?_⟩ <;> (repeat' first | exact trivial | exact CvB_n | exact CvB_d | exact CvB_o rfl | refine CvE_app ?_ ?_ | refine CvE_cons rfl ?_ ?_ | refine CvH_cons ?_ ?_ | refine CvB_c rfl ?_ | fail) <;> first | exact au_v | (exact CvL.eq rfl hp0)) ?_
    refine VC.condF rfl ?_
    refine VC.skip ?_
    refine VC.seq ?_
    refine VC.reg tab_ok [] rfl ?_
    refine VX.meek rfl ?_
    refine VX.nil ?_
    refine VC.block ?_
    refine VC.loopS2 (σ1 := Nat) (σ2 := Ed) (fun i _ => s.length - i) (fun i e => i ≤ s.length ∧ KE e i (tyE s [] i)) (fun i e => [(6, I64 (i : Nat)), (3, .ptr 0 0)]) (fun i e => [.c (edC e)]) [0] rfl (0) (e0) ?_ ?_ ?_
    · refine ⟨[some 0], rfl, by first | trivial | decide, by first | rfl | (simp only [noO, Bool.and_true, Bool.and_eq_true]; first | assumption | (refine ⟨?_, ?_⟩ <;> assumption)) | (simp only [noO, *, Bool.and_true, Bool.true_and, Bool.and_self]; done), ?_, ?_⟩ <;> (repeat' first | exact trivial | exact CvB_n | exact CvB_d | exact CvB_o rfl | refine CvE_app ?_ ?_ | refine CvE_cons rfl ?_ ?_ | refine CvH_cons ?_ ?_ | refine CvB_c rfl ?_ | fail) <;> first | exact au_v | (first | exact CvL.pure hp0 | exact CvL.pure rfl)
    · exact ⟨Nat.zero_le _, k0⟩
    rintro i e ⟨hi, he⟩
    refine VC.seq ?_
    refine VC.reg tab_ok [] rfl ?_
    iterate 2 refine VX.meek rfl ?_
    refine VX.meek (t := I64 (s.length : Nat)) rfl ?_
    refine VX.meek rfl ?_
    refine VX.nil ?_
    refine VC.cond rfl (fun hc3 => ?_) (fun hc3 => ?_)
    · (try simp only [au_std] at hc3); have hil : i < s.length := (by omega); have hat := getB hil; have hok := rightB_at hri hil; have hkt := key_ty (tyE s [] i) s[i]! (by rw [hat] at hok; exact hok); rw [tyE_put s [] (by omega) hil] at hkt; have hpe := ed_pure e; have hlt := s[i]!.toNat_lt
      refine VC.skip ?_
      refine VC.seq ?_
      refine VC.block ?_
      refine VC.reg tab_ok [] rfl ?_
      iterate 2 refine VX.meek rfl ?_
      refine VX.idxY rfl rfl rfl rfl rfl hat ?_
      refine VX.meek (t := I64 (s[i]!.toNat : Nat)) (by show some (T.v (.int .i64 (IntKind.i64.wrap (s[i]!.toNat : Int))), (none : Option (Nat × List T))) = _; rw [wrap_in (by omega)]) ?_
      refine VX.meek rfl ?_
      refine VX.nil ?_
      refine VC.seq ?_
      refine VC.reg tab_ok [] rfl ?_
      iterate 2 refine VX.meek rfl ?_
      refine VX.nil ?_
      refine VC.cond rfl (fun hc4 => ?_) (fun hc4 => ?_)
      · (try simp only [au_std] at hc4); rw [if_pos (by omega)] at hkt; have hk := key55_p 13 0; have hst := he.stepT (by omega) 13 0 (by omega) (by omega); have he2 := he.step 13 0 hkt; generalize (e.step (keyO 13 0)).1 = e2 at *; generalize (e.step (keyO 13 0)).2 = r2 at *; have hp2 := ed_pure e2; have hpr := encL_pure cRq r2; have hpo := ot_pure (keyO 13 0)
        refine VC.regN tab_ok [] rfl ?_
        refine VX.meek rfl ?_
        refine VX.nil ?_
        refine VC.drwTN tab_ok [] [_, _, _, _, _, _, _, _] [true, true, true, true, true, true, false, false] rfl (by kernel_rfl) (by kernel_rfl) (by kernel_rfl) (by kernel_rfl) ?_
        refine VT.seg true (l1 := [_, _, _, _, _, _]) rfl ?_
        first | refine VX.meek rfl ?_ | refine VX.loadI rfl rfl au_l ?_ | refine VX.loadP rfl rfl rfl au_l ?_
        refine VX.meek rfl ?_
        refine VX.callP0 rfl rfl rfl (hk) ?_
        refine VX.callP0 rfl rfl rfl (hst) ?_
        iterate 2 refine VX.meek rfl ?_
        refine VX.nil ⟨rfl, ?_⟩
        refine VT.seg false (l1 := [_]) rfl ?_
        refine VX.meek rfl ?_
        refine VX.nil ⟨rfl, ?_⟩
        refine VT.sto rfl rfl rfl rfl ?_
        refine VT.nil (⟨Nat.le_of_ble_eq_true rfl, rfl, trivial⟩) ⟨rfl, ?_⟩
        refine VX.nil ?_
        refine VC.regN tab_ok [] rfl ?_
        refine VX.meek rfl ?_
        first | refine VX.add rfl rfl (by omega) ?_ | refine VX.meek rfl ?_
        refine VX.meek rfl ?_
        refine VX.nil ?_
        refine ⟨i + 1, e2, by (try dsimp only); omega, ?_, (by refine ⟨[some 0], rfl, by first | trivial | decide, by first | rfl | (simp only [noO, Bool.and_true, Bool.and_eq_true]; first | assumption | (refine ⟨?_, ?_⟩ <;> assumption)) | (simp only [noO, *, Bool.and_true, Bool.true_and, Bool.and_self]; done), ?_, ?_⟩ <;> (repeat' first | exact trivial | exact CvB_n | exact CvB_d | exact CvB_o rfl | refine CvE_app ?_ ?_ | refine CvE_cons rfl ?_ ?_ | refine CvH_cons ?_ ?_ | refine CvB_c rfl ?_ | fail) <;> first | exact au_v | (first | exact CvL.eq rfl hp2 | exact CvL.pure rfl))⟩
        exact ⟨by omega, he2⟩
      · (try simp only [au_std] at hc4); rw [if_neg (by omega)] at hkt; have hk := key55_p (s[i]!.toNat : Nat) 0; have hst := he.stepT (by omega) (s[i]!.toNat : Nat) 0 (by omega) (by omega); have he2 := he.step (s[i]!.toNat : Nat) 0 hkt; generalize (e.step (keyO (s[i]!.toNat : Nat) 0)).1 = e2 at *; generalize (e.step (keyO (s[i]!.toNat : Nat) 0)).2 = r2 at *; have hp2 := ed_pure e2; have hpr := encL_pure cRq r2; have hpo := ot_pure (keyO (s[i]!.toNat : Nat) 0)
        refine VC.skip ?_
        refine VC.drwTN tab_ok [] [_, _, _, _, _, _, _, _] [true, true, true, true, true, true, false, false] rfl (by kernel_rfl) (by kernel_rfl) (by kernel_rfl) (by kernel_rfl) ?_
        refine VT.seg true (l1 := [_, _, _, _, _, _]) rfl ?_
        first | refine VX.meek rfl ?_ | refine VX.loadI rfl rfl au_l ?_ | refine VX.loadP rfl rfl rfl au_l ?_
        refine VX.meek rfl ?_
        refine VX.callP0 rfl rfl rfl (hk) ?_
        refine VX.callP0 rfl rfl rfl (hst) ?_
        iterate 2 refine VX.meek rfl ?_
        refine VX.nil ⟨rfl, ?_⟩
        refine VT.seg false (l1 := [_]) rfl ?_
        refine VX.meek rfl ?_
        refine VX.nil ⟨rfl, ?_⟩
        refine VT.sto rfl rfl rfl rfl ?_
        refine VT.nil (⟨Nat.le_of_ble_eq_true rfl, rfl, trivial⟩) ⟨rfl, ?_⟩
        refine VX.nil ?_
        refine VC.regN tab_ok [] rfl ?_
        refine VX.meek rfl ?_
        first | refine VX.add rfl rfl (by omega) ?_ | refine VX.meek rfl ?_
        refine VX.meek rfl ?_
        refine VX.nil ?_
        refine ⟨i + 1, e2, by (try dsimp only); omega, ?_, (by refine ⟨[some 0], rfl, by first | trivial | decide, by first | rfl | (simp only [noO, Bool.and_true, Bool.and_eq_true]; first | assumption | (refine ⟨?_, ?_⟩ <;> assumption)) | (simp only [noO, *, Bool.and_true, Bool.true_and, Bool.and_self]; done), ?_, ?_⟩ <;> (repeat' first | exact trivial | exact CvB_n | exact CvB_d | exact CvB_o rfl | refine CvE_app ?_ ?_ | refine CvE_cons rfl ?_ ?_ | refine CvH_cons ?_ ?_ | refine CvB_c rfl ?_ | fail) <;> first | exact au_v | (first | exact CvL.eq rfl hp2 | exact CvL.pure rfl))⟩
        exact ⟨by omega, he2⟩
    · (try simp only [au_std] at hc3); obtain rfl : i = s.length := (by omega); have htx := text_p e; have hcu := curs_p e; rw [he.c, tyE_all] at htx; rw [he.c] at hcu; change CallP _ _ _ (I64 (s.length : Nat)) at hcu; have hpe := ed_pure e; have hu0 : KE e (60 + 0) (unE s [] s.length) := ⟨he.w, he.m, he.n, by have := he.k; omega, by rw [he.c, unE_top]⟩; have hx0 : KE e (60 + 0) (erE s [] s.length) := ⟨he.w, he.m, he.n, by have := he.k; omega, by rw [he.c, erE_top]⟩
      refine VC.exit ?_
      refine VC.seq ?_
      refine VC.reg tab_ok [] rfl ?_
      first | refine VX.meek rfl ?_ | refine VX.loadI rfl rfl au_l ?_ | refine VX.loadP rfl rfl rfl au_l ?_
      refine VX.callP0 rfl rfl rfl (htx) ?_
      refine VX.meek rfl ?_
      refine VX.strNeN (a := s) (b := s) rfl rfl ?_; rw [show (s != s) = false from by simp]
      refine VX.meek rfl ?_
      refine' VX.merge (d := 58) [_, _, _, _, _, _] rfl ?_ rfl ?_
      rotate_left
      · refine VX.guard rfl rfl (fun hb15_4 => ?_) (fun hb15_4 => ?_)
        · have ghb15_4 := hb15_4
          try simp only [au_std, Bool.not_true, Bool.not_false] at ghb15_4
          first | refine VX.meek rfl ?_ | refine VX.loadI rfl rfl au_l ?_ | refine VX.loadP rfl rfl rfl au_l ?_
          refine VX.guardT rfl rfl hb15_4 ?_
          refine VX.callP0 rfl rfl rfl (hcu) ?_
          refine VX.guardT rfl rfl hb15_4 ?_
          refine VX.meek rfl ?_
          refine VX.guardT rfl rfl hb15_4 ?_
          refine VX.meek (t := I64 (s.length : Nat)) rfl ?_
          refine VX.guardT rfl rfl hb15_4 ?_
          refine VX.meek rfl ?_
          refine VX.pickO rfl (fun _ => rfl) ?_
          exact VX.nil ⟨rfl, rfl⟩
        · refine VX.guardF rfl rfl hb15_4 ?_
          iterate 3 refine VX.guardF rfl rfl hb15_4 ?_
          exact VX.pickO rfl (fun h => absurd (h.symm.trans hb15_4) (by decide)) (VX.nil ⟨rfl, rfl⟩)
      refine VX.nil ?_
      refine VC.cond rfl (fun hc5 => ?_) (fun hc5 => ?_)
      · (try simp only [au_std] at hc5); simp at hc5
      · (try simp only [au_std] at hc5)
        refine VC.skip ?_
        refine VC.drwS tab_ok [] [_, _, _, _, _] (_) rfl (by kernel_rfl) (by kernel_rfl) (by kernel_rfl) (seen_refl _) ?_
        refine VS.seg (l1 := [_, _]) rfl ?_
        first | refine VX.meek rfl ?_ | refine VX.loadI rfl rfl au_l ?_ | refine VX.loadP rfl rfl rfl au_l ?_
        first | refine VX.meek rfl ?_ | refine VX.loadI rfl rfl au_l ?_ | refine VX.loadP rfl rfl rfl au_l ?_
        refine VX.nil ?_
        refine VS.hid rfl ?_
        refine VS.seg (l1 := [_]) rfl ?_
        refine VX.new rfl rfl ?_
        refine VX.nil ?_
        refine VS.sto rfl rfl rfl rfl ?_
        refine VS.nil (⟨rfl, Nat.le_of_ble_eq_true rfl, rfl, trivial⟩) ?_
        refine VX.store rfl rfl rfl rfl rfl au_s rfl ?_
        refine VX.nil ?_
        refine VC.view ([(8, .ptr 0 0), (9, .ptr 1 0)]) ([.c (edC e), .c (edC e)]) [0] rfl (by refine ⟨[some 1, some 2], rfl, by first | trivial | decide, by first | rfl | (simp only [noO, Bool.and_true, Bool.and_eq_true]; first | assumption | (refine ⟨?_, ?_⟩ <;> assumption)) | (simp only [noO, *, Bool.and_true, Bool.true_and, Bool.and_self]; done), ?_, ?_⟩ <;> (repeat' first | exact trivial | exact CvB_n | exact CvB_d | exact CvB_o rfl | refine CvE_app ?_ ?_ | refine CvE_cons rfl ?_ ?_ | refine CvH_cons ?_ ?_ | refine CvB_c rfl ?_ | fail) <;> first | exact au_v | (exact CvL.eq rfl hpe)) ?_
        refine VC.seq ?_
        refine VC.reg tab_ok [] rfl ?_
        refine VX.meek rfl ?_
        refine VX.nil ?_
        refine VC.block ?_
        refine VC.loopS3 (σ1 := Nat) (σ2 := Ed) (σ3 := Ed) (fun i _ _ => s.length - i) (fun i u x => i ≤ s.length ∧ KE u (60 + i) (unE s [] (s.length - i)) ∧ KE x (60 + i) (erE s [] (s.length - i))) (fun i u x => [(10, I64 (i : Nat)), (8, .ptr 0 0), (9, .ptr 1 0)]) (fun i u x => [.c (edC u), .c (edC x)]) [0] rfl (0) (e) (e) ?_ ?_ ?_
        · refine ⟨[some 0, some 1], rfl, by first | trivial | decide, by first | rfl | (simp only [noO, Bool.and_true, Bool.and_eq_true]; first | assumption | (refine ⟨?_, ?_⟩ <;> assumption)) | (simp only [noO, *, Bool.and_true, Bool.true_and, Bool.and_self]; done), ?_, ?_⟩ <;> (repeat' first | exact trivial | exact CvB_n | exact CvB_d | exact CvB_o rfl | refine CvE_app ?_ ?_ | refine CvE_cons rfl ?_ ?_ | refine CvH_cons ?_ ?_ | refine CvB_c rfl ?_ | fail) <;> first | exact au_v | (first | exact CvL.pure hpe | exact CvL.pure rfl)
        · exact ⟨Nat.zero_le _, hu0, hx0⟩
        rintro i u x ⟨hi2, hu, hx⟩
        refine VC.seq ?_
        refine VC.reg tab_ok [] rfl ?_
        iterate 2 refine VX.meek rfl ?_
        refine VX.meek (t := I64 (s.length : Nat)) rfl ?_
        refine VX.meek rfl ?_
        refine VX.nil ?_
        refine VC.cond rfl (fun hc6 => ?_) (fun hc6 => ?_)
        · (try simp only [au_std] at hc6); have hil : i < s.length := (by omega); have hun := unE_undo s [] (by omega) (k := s.length - i - 1) (by omega); have her := erE_erase s [] (by omega) (k := s.length - i - 1) (by omega); rw [show s.length - i - 1 + 1 = s.length - i from by omega] at hun her
          have hk1 := key55_p 122 4
          have hk2 := key55_p 8 0
          have hst1 := hu.stepT (by omega) 122 4 (by omega) (by omega)
          have hst2 := hx.stepT (by omega) 8 0 (by omega) (by omega)
          have hu2 := hu.step 122 4 ((key_undo _).trans hun)
          have hx2 := hx.step 8 0 ((key_erase _).trans her)
          rw [show s.length - i - 1 = s.length - (i + 1) from by omega] at hu2 hx2
          generalize (u.step (keyO 122 4)).1 = u2 at *
          generalize (u.step (keyO 122 4)).2 = ru at *
          generalize (x.step (keyO 8 0)).1 = x2 at *
          generalize (x.step (keyO 8 0)).2 = rx at *
          have hp1 := ed_pure u
          have hp2 := ed_pure x
          have hp3 := ed_pure u2
          have hp4 := ed_pure x2
          have hpr1 := encL_pure cRq ru
          have hpr2 := encL_pure cRq rx
          refine VC.skip ?_
          refine VC.seq ?_
          refine VC.block ?_
          refine VC.drwT tab_ok [] [_, _, _, _, _, _, _] [true, true, true, true, true, false, false] rfl (by kernel_rfl) (by kernel_rfl) (by kernel_rfl) (by kernel_rfl) ?_
          refine VT.seg true (l1 := [_, _, _, _, _]) rfl ?_
          first | refine VX.meek rfl ?_ | refine VX.loadI rfl rfl au_l ?_ | refine VX.loadP rfl rfl rfl au_l ?_
          refine VX.callP0 rfl rfl rfl (hk1) ?_
          refine VX.callP0 rfl rfl rfl (hst1) ?_
          iterate 2 refine VX.meek rfl ?_
          refine VX.nil ⟨rfl, ?_⟩
          refine VT.seg false (l1 := [_]) rfl ?_
          refine VX.meek rfl ?_
          refine VX.nil ⟨rfl, ?_⟩
          refine VT.sto rfl rfl rfl rfl ?_
          refine VT.nil (⟨Nat.le_of_ble_eq_true rfl, rfl, trivial⟩) ⟨rfl, ?_⟩
          refine VX.nil ?_
          refine VC.view ([(8, .ptr 0 0), (9, .ptr 1 0)]) ([.c (edC u2), .c (edC x)]) [0, 10] rfl (by refine ⟨[some 0, some 1], rfl, by first | trivial | decide, by first | rfl | (simp only [noO, Bool.and_true, Bool.and_eq_true]; first | assumption | (refine ⟨?_, ?_⟩ <;> assumption)) | (simp only [noO, *, Bool.and_true, Bool.true_and, Bool.and_self]; done), ?_, ?_⟩ <;> (repeat' first | exact trivial | exact CvB_n | exact CvB_d | exact CvB_o rfl | refine CvE_app ?_ ?_ | refine CvE_cons rfl ?_ ?_ | refine CvH_cons ?_ ?_ | refine CvB_c rfl ?_ | fail) <;> first | exact au_v | (first | exact CvL.eq rfl hp3 | exact CvL.pure hp2)) ?_
          refine VC.drwTN tab_ok [] [_, _, _, _, _, _, _] [true, true, true, true, true, false, false] rfl (by kernel_rfl) (by kernel_rfl) (by kernel_rfl) (by kernel_rfl) ?_
          refine VT.seg true (l1 := [_, _, _, _, _]) rfl ?_
          first | refine VX.meek rfl ?_ | refine VX.loadI rfl rfl au_l ?_ | refine VX.loadP rfl rfl rfl au_l ?_
          refine VX.callP0 rfl rfl rfl (hk2) ?_
          refine VX.callP0 rfl rfl rfl (hst2) ?_
          iterate 2 refine VX.meek rfl ?_
          refine VX.nil ⟨rfl, ?_⟩
          refine VT.seg false (l1 := [_]) rfl ?_
          refine VX.meek rfl ?_
          refine VX.nil ⟨rfl, ?_⟩
          refine VT.sto rfl rfl rfl rfl ?_
          refine VT.nil (⟨Nat.le_of_ble_eq_true rfl, rfl, trivial⟩) ⟨rfl, ?_⟩
          refine VX.nil ?_
          refine VC.regN tab_ok [] rfl ?_
          refine VX.meek rfl ?_
          first | refine VX.add rfl rfl (by omega) ?_ | refine VX.meek rfl ?_
          refine VX.meek rfl ?_
          refine VX.nil ?_
          refine ⟨i + 1, u2, x2, by (try dsimp only); omega, ?_, (by refine ⟨[some 0, some 1], rfl, by first | trivial | decide, by first | rfl | (simp only [noO, Bool.and_true, Bool.and_eq_true]; first | assumption | (refine ⟨?_, ?_⟩ <;> assumption)) | (simp only [noO, *, Bool.and_true, Bool.true_and, Bool.and_self]; done), ?_, ?_⟩ <;> (repeat' first | exact trivial | exact CvB_n | exact CvB_d | exact CvB_o rfl | refine CvE_app ?_ ?_ | refine CvE_cons rfl ?_ ?_ | refine CvH_cons ?_ ?_ | refine CvB_c rfl ?_ | fail) <;> first | exact au_v | (first | exact CvL.pure hp3 | exact CvL.eq rfl hp4 | exact CvL.pure rfl))⟩
          exact ⟨by omega, by rw [← Nat.add_assoc]; exact hu2, by rw [← Nat.add_assoc]; exact hx2⟩
        · (try simp only [au_std] at hc6); obtain rfl : i = s.length := (by omega); rw [Nat.sub_self] at hu hx; have htu := text_p u; have htx := text_p x; have hcx := curs_p x; rw [hu.c] at htu; rw [hx.c] at htx hcx; change CallP _ _ _ (strT []) at htu; change CallP _ _ _ (strT []) at htx; change CallP _ _ _ (I64 (0 : Nat)) at hcx; have hpu := ed_pure u; have hpx := ed_pure x; have hu0 : KE u (120 + 0) (reE s [] 0) := ⟨hu.w, hu.m, hu.n, by have := hu.k; omega, hu.c⟩; have hx0 : KE x (120 + 0) (rbE s [] 0) := ⟨hx.w, hx.m, hx.n, by have := hx.k; omega, hx.c⟩
          refine VC.exit ?_
          refine VC.seq ?_
          refine VC.reg tab_ok [] rfl ?_
          first | refine VX.meek rfl ?_ | refine VX.loadI rfl rfl au_l ?_ | refine VX.loadP rfl rfl rfl au_l ?_
          refine VX.callP0 rfl rfl rfl (htu) ?_
          refine VX.strNeN (a := []) (b := []) rfl rfl ?_; rw [show (([] : List UInt8) != []) = false from rfl]
          refine VX.meek rfl ?_
          refine' VX.merge (d := 86) [_, _, _, _] rfl ?_ rfl ?_
          rotate_left
          · refine VX.guard rfl rfl (fun hb23_3 => ?_) (fun hb23_3 => ?_)
            · have ghb23_3 := hb23_3
              try simp only [au_std, Bool.not_true, Bool.not_false] at ghb23_3
              first | refine VX.meek rfl ?_ | refine VX.loadI rfl rfl au_l ?_ | refine VX.loadP rfl rfl rfl au_l ?_
              refine VX.guardT rfl rfl hb23_3 ?_
              refine VX.callP0 rfl rfl rfl (htx) ?_
              refine VX.guardT rfl rfl hb23_3 ?_
              refine VX.strNeN (a := []) (b := []) rfl rfl ?_; rw [show (([] : List UInt8) != []) = false from rfl]
              refine VX.pickO rfl (fun _ => rfl) ?_
              exact VX.nil ⟨rfl, rfl⟩
            · refine VX.guardF rfl rfl hb23_3 ?_
              refine VX.guardF rfl rfl hb23_3 ?_
              exact VX.pickO rfl (fun h => absurd (h.symm.trans hb23_3) (by decide)) (VX.nil ⟨rfl, rfl⟩)
          refine VX.meek rfl ?_
          refine' VX.merge (d := 91) [_, _, _, _] rfl ?_ rfl ?_
          rotate_left
          · refine VX.guard rfl rfl (fun hb23_8 => ?_) (fun hb23_8 => ?_)
            · have ghb23_8 := hb23_8
              try simp only [au_std, Bool.not_true, Bool.not_false] at ghb23_8
              first | refine VX.meek rfl ?_ | refine VX.loadI rfl rfl au_l ?_ | refine VX.loadP rfl rfl rfl au_l ?_
              refine VX.guardT rfl rfl hb23_8 ?_
              refine VX.callP0 rfl rfl rfl (hcx) ?_
              refine VX.guardT rfl rfl hb23_8 ?_
              refine VX.meek rfl ?_
              refine VX.pickO rfl (fun _ => rfl) ?_
              exact VX.nil ⟨rfl, rfl⟩
            · refine VX.guardF rfl rfl hb23_8 ?_
              refine VX.guardF rfl rfl hb23_8 ?_
              exact VX.pickO rfl (fun h => absurd (h.symm.trans hb23_8) (by decide)) (VX.nil ⟨rfl, rfl⟩)
          refine VX.nil ?_
          refine VC.cond rfl (fun hc7 => ?_) (fun hc7 => ?_)
          · (try simp only [au_std] at hc7); simp at hc7
          · (try simp only [au_std] at hc7)
            refine VC.skip ?_
            refine VC.seq ?_
            refine VC.reg tab_ok [] rfl ?_
            refine VX.meek rfl ?_
            refine VX.nil ?_
            refine VC.block ?_
            refine VC.loopS3 (σ1 := Nat) (σ2 := Ed) (σ3 := Ed) (fun i _ _ => s.length - i) (fun i u x => i ≤ s.length ∧ KE u (120 + i) (reE s [] i) ∧ KE x (120 + i) (rbE s [] i)) (fun i u x => [(11, I64 (i : Nat)), (8, .ptr 0 0), (9, .ptr 1 0)]) (fun i u x => [.c (edC u), .c (edC x)]) [0] rfl (0) (u) (x) ?_ ?_ ?_
            · refine ⟨[some 0, some 1], rfl, by first | trivial | decide, by first | rfl | (simp only [noO, Bool.and_true, Bool.and_eq_true]; first | assumption | (refine ⟨?_, ?_⟩ <;> assumption)) | (simp only [noO, *, Bool.and_true, Bool.true_and, Bool.and_self]; done), ?_, ?_⟩ <;> (repeat' first | exact trivial | exact CvB_n | exact CvB_d | exact CvB_o rfl | refine CvE_app ?_ ?_ | refine CvE_cons rfl ?_ ?_ | refine CvH_cons ?_ ?_ | refine CvB_c rfl ?_ | fail) <;> first | exact au_v | (first | exact CvL.pure hpu | exact CvL.pure hpx | exact CvL.pure rfl)
            · exact ⟨Nat.zero_le _, hu0, hx0⟩
            rintro i u x ⟨hi3, hu, hx⟩
            refine VC.seq ?_
            refine VC.reg tab_ok [] rfl ?_
            iterate 2 refine VX.meek rfl ?_
            refine VX.meek (t := I64 (s.length : Nat)) rfl ?_
            refine VX.meek rfl ?_
            refine VX.nil ?_
            refine VC.cond rfl (fun hc8 => ?_) (fun hc8 => ?_)
            · (try simp only [au_std] at hc8); have hil : i < s.length := (by omega); have hun := reE_redo s [] (by omega) (k := i) (by omega); have her := rbE_undo s [] (by omega) (k := i) (by omega)
              have hk1 := key55_p 121 4
              have hk2 := key55_p 122 4
              have hst1 := hu.stepT (by omega) 121 4 (by omega) (by omega)
              have hst2 := hx.stepT (by omega) 122 4 (by omega) (by omega)
              have hu2 := hu.step 121 4 ((key_redo _).trans hun)
              have hx2 := hx.step 122 4 ((key_undo _).trans her)
              generalize (u.step (keyO 121 4)).1 = u2 at *
              generalize (u.step (keyO 121 4)).2 = ru at *
              generalize (x.step (keyO 122 4)).1 = x2 at *
              generalize (x.step (keyO 122 4)).2 = rx at *
              have hp1 := ed_pure u
              have hp2 := ed_pure x
              have hp3 := ed_pure u2
              have hp4 := ed_pure x2
              have hpr1 := encL_pure cRq ru
              have hpr2 := encL_pure cRq rx
              refine VC.skip ?_
              refine VC.seq ?_
              refine VC.block ?_
              refine VC.drwT tab_ok [] [_, _, _, _, _, _, _] [true, true, true, true, true, false, false] rfl (by kernel_rfl) (by kernel_rfl) (by kernel_rfl) (by kernel_rfl) ?_
              refine VT.seg true (l1 := [_, _, _, _, _]) rfl ?_
              first | refine VX.meek rfl ?_ | refine VX.loadI rfl rfl au_l ?_ | refine VX.loadP rfl rfl rfl au_l ?_
              refine VX.callP0 rfl rfl rfl (hk1) ?_
              refine VX.callP0 rfl rfl rfl (hst1) ?_
              iterate 2 refine VX.meek rfl ?_
              refine VX.nil ⟨rfl, ?_⟩
              refine VT.seg false (l1 := [_]) rfl ?_
              refine VX.meek rfl ?_
              refine VX.nil ⟨rfl, ?_⟩
              refine VT.sto rfl rfl rfl rfl ?_
              refine VT.nil (⟨Nat.le_of_ble_eq_true rfl, rfl, trivial⟩) ⟨rfl, ?_⟩
              refine VX.nil ?_
              refine VC.view ([(8, .ptr 0 0), (9, .ptr 1 0)]) ([.c (edC u2), .c (edC x)]) [0, 11] rfl (by refine ⟨[some 0, some 1], rfl, by first | trivial | decide, by first | rfl | (simp only [noO, Bool.and_true, Bool.and_eq_true]; first | assumption | (refine ⟨?_, ?_⟩ <;> assumption)) | (simp only [noO, *, Bool.and_true, Bool.true_and, Bool.and_self]; done), ?_, ?_⟩ <;> (repeat' first | exact trivial | exact CvB_n | exact CvB_d | exact CvB_o rfl | refine CvE_app ?_ ?_ | refine CvE_cons rfl ?_ ?_ | refine CvH_cons ?_ ?_ | refine CvB_c rfl ?_ | fail) <;> first | exact au_v | (first | exact CvL.eq rfl hp3 | exact CvL.pure hp2)) ?_
              refine VC.drwTN tab_ok [] [_, _, _, _, _, _, _] [true, true, true, true, true, false, false] rfl (by kernel_rfl) (by kernel_rfl) (by kernel_rfl) (by kernel_rfl) ?_
              refine VT.seg true (l1 := [_, _, _, _, _]) rfl ?_
              first | refine VX.meek rfl ?_ | refine VX.loadI rfl rfl au_l ?_ | refine VX.loadP rfl rfl rfl au_l ?_
              refine VX.callP0 rfl rfl rfl (hk2) ?_
              refine VX.callP0 rfl rfl rfl (hst2) ?_
              iterate 2 refine VX.meek rfl ?_
              refine VX.nil ⟨rfl, ?_⟩
              refine VT.seg false (l1 := [_]) rfl ?_
              refine VX.meek rfl ?_
              refine VX.nil ⟨rfl, ?_⟩
              refine VT.sto rfl rfl rfl rfl ?_
              refine VT.nil (⟨Nat.le_of_ble_eq_true rfl, rfl, trivial⟩) ⟨rfl, ?_⟩
              refine VX.nil ?_
              refine VC.regN tab_ok [] rfl ?_
              refine VX.meek rfl ?_
              first | refine VX.add rfl rfl (by omega) ?_ | refine VX.meek rfl ?_
              refine VX.meek rfl ?_
              refine VX.nil ?_
              refine ⟨i + 1, u2, x2, by (try dsimp only); omega, ?_, (by refine ⟨[some 0, some 1], rfl, by first | trivial | decide, by first | rfl | (simp only [noO, Bool.and_true, Bool.and_eq_true]; first | assumption | (refine ⟨?_, ?_⟩ <;> assumption)) | (simp only [noO, *, Bool.and_true, Bool.true_and, Bool.and_self]; done), ?_, ?_⟩ <;> (repeat' first | exact trivial | exact CvB_n | exact CvB_d | exact CvB_o rfl | refine CvE_app ?_ ?_ | refine CvE_cons rfl ?_ ?_ | refine CvH_cons ?_ ?_ | refine CvB_c rfl ?_ | fail) <;> first | exact au_v | (first | exact CvL.pure hp3 | exact CvL.eq rfl hp4 | exact CvL.pure rfl))⟩
              exact ⟨by omega, by rw [← Nat.add_assoc]; exact hu2, by rw [← Nat.add_assoc]; exact hx2⟩
            · (try simp only [au_std] at hc8); obtain rfl : i = s.length := (by omega); have htu := text_p u; have htx := text_p x; rw [hu.c, show (reE s [] s.length).bf.text = s from List.take_length] at htu; rw [hx.c, show (rbE s [] s.length).bf.text = s from List.take_length] at htx; have hpu := ed_pure u; have hpx := ed_pure x
              refine VC.exit ?_
              refine VC.reg tab_ok [] rfl ?_
              first | refine VX.meek rfl ?_ | refine VX.loadI rfl rfl au_l ?_ | refine VX.loadP rfl rfl rfl au_l ?_
              refine VX.callP0 rfl rfl rfl (htu) ?_
              refine VX.meek rfl ?_
              refine VX.strEqN (a := s) (b := s) rfl rfl ?_; rw [show (s == s) = true from by simp]
              refine VX.meek rfl ?_
              refine' VX.merge (d := 119) [_, _, _, _, _] rfl ?_ rfl ?_
              rotate_left
              · refine VX.guard rfl rfl (fun hb30_4 => ?_) (fun hb30_4 => ?_)
                · have ghb30_4 := hb30_4
                  try simp only [au_std, Bool.not_true, Bool.not_false] at ghb30_4
                  first | refine VX.meek rfl ?_ | refine VX.loadI rfl rfl au_l ?_ | refine VX.loadP rfl rfl rfl au_l ?_
                  refine VX.guardT rfl rfl hb30_4 ?_
                  refine VX.callP0 rfl rfl rfl (htx) ?_
                  refine VX.guardT rfl rfl hb30_4 ?_
                  refine VX.meek rfl ?_
                  refine VX.guardT rfl rfl hb30_4 ?_
                  refine VX.strEqN (a := s) (b := s) rfl rfl ?_; rw [show (s == s) = true from by simp]
                  refine VX.pickA rfl (fun _ => rfl) ?_
                  exact VX.nil ⟨rfl, rfl⟩
                · refine VX.guardF rfl rfl hb30_4 ?_
                  iterate 2 refine VX.guardF rfl rfl hb30_4 ?_
                  exact VX.pickA rfl (fun h => absurd (h.symm.trans hb30_4) (by decide)) (VX.nil ⟨rfl, rfl⟩)
              refine VX.meek rfl ?_
              refine VX.nil ?_
              refine VC.ret ?_
              exact ⟨trivial, _, rfl, Cv.eq (by first | rfl | (simp [*]; done)) rfl⟩
end
section
open Go.RowKit
theorem wtE_str {ts : List T} (h : Sh.str.wt ts) : ∃ l : List UInt8, ts = [strT l] ∧ l.length ≤ maxLen := by
  obtain ⟨s, rfl, hs⟩ := h
  refine ⟨s.data.toList, ?_, by rw [← Lib.size_eq]; exact hs⟩
  show [T.v (.string s)] = [T.v (.string ⟨s.data.toList.toArray⟩)]
  rw [byt_eta]
theorem editorTypes_wt {t0 : List T} (h0 : Sh.str.wt t0) : CallP Tryz.prog 3 [Sh.str.tree t0] (BL true) := by
  obtain ⟨s, rfl, hs⟩ := wtE_str h0
  exact editorTypes_all s
end
section
open Go.RowKit
set_option maxRecDepth 100000
theorem glo_of {W : World} {l : List (String × DataW Unit)} (hf : l.filter (fun x => x.1 == "strings.asciiSpace") = [("strings.asciiSpace", Lib.tabData .u8 Lib.asciiSpaceTab)]) (h : laidMetH Tryz.prog l W) : Glo (inW (fun _ => none) W) := by
  have h2 := h.filter (fun x => x.1 == "strings.asciiSpace")
  rw [hf, MakeChecks.laidMetH_plain _ _ _ (by kernel_rfl)] at h2
  have ht : Lib.TabIs Tryz.prog W "strings.asciiSpace" .u8 Lib.asciiSpaceTab := Lib.tabIs_of_head (g := 0) (t := 161) (e := 5) (n := 256) (by kernel_rfl) (by kernel_rfl) (by kernel_rfl) (by kernel_rfl) (by kernel_rfl) (by kernel_rfl) h2
  intro g a hg
  have hg' : glT g = some a := hg
  unfold glT at hg'
  split at hg'
  · rename_i hgg
    subst hgg
    injection hg' with hg'
    subst hg'
    unfold Lib.TabIs World.var? at ht
    rw [show Tryz.prog.globalNamed "strings.asciiSpace" = some 0 from by kernel_rfl] at ht
    simp only [Option.bind_some] at ht
    refine ⟨fun h => h, ?_⟩
    show ∃ e f, W.heap[0]? = some (.cells spaceA e f)
    split at ht
    · rename_i cs e f he
      injection ht with ht
      subst ht
      exact ⟨_, _, he⟩
    · cases ht
  · cases hg'
end
section
open Go.ChangeShapes Go.WideShapes Go.ChangeAt Go.RowKit Go.WideElems
def rowed (P : Program) (ts : List TypeId) : Bool := ts.all fun t => P.readableRec t && decide (t < P.types.size)
theorem trodAll_below {H : Type} {enc : TypeId × Value → H} {P : Program} (hl : laidOutB P = true) {W W' : World} (hb : Below W.heap.size W W') :
    ∀ {ts : List TypeId} {vs : List Value} {ds : List (DataW H)} {p : List MemPlace}, rowed P ts = true → (∀ x ∈ p, x.block < W.heap.size) →
      DataW.TrodAll enc P W 0 (fun _ => true) true ts vs ds p → DataW.TrodAll enc P W' 0 (fun b => decide (b < W.heap.size)) true ts vs ds p
  | [], _, _, _, _, _, h => by
    obtain ⟨rfl, rfl, rfl⟩ := trodAll_nil h
    exact trodAll_mk0
  | t :: ts, _, _, _, hr, hlt, h => by
    obtain ⟨v, vs1, d, ds1, a, b, rfl, rfl, rfl, h1, h2⟩ := trodAll_cons h
    simp only [rowed, List.all_cons, Bool.and_eq_true, decide_eq_true_eq] at hr
    refine trodAll_cons_mk (Below.trod hl hr.1.1 hr.1.2 h1 hb (fun x hx => hlt x (by simp [hx]))) ?_
    exact trodAll_below hl hb (by simpa [rowed] using hr.2) (fun x hx => hlt x (by simp [hx])) h2
theorem post_law {H : Type} {enc : TypeId × Value → H} {P : Program} {f : Func} {s : ChangeSpec} {W W' : World} {args : Array Value} {ds gs : List (DataW H)} {before : List MemPlace} {tb : TypeId}
    (hl : laidOutB P = true) (hps : rowed P f.params.toList = true) (hvs : varsRowed P s.vars = true) (hres : f.resultTypes = #[tb]) (htb : P.underlying tb = some .bool)
    (hW : DataW.Whole enc P f.params.toList s.vars false W args.toList ds gs before)
    (h1 : (s.fn H (ds ++ gs)).results = [.lit (.bool true)]) (h2 : (s.fn H (ds ++ gs)).args = ds) (h3 : (s.fn H (ds ++ gs)).vars = gs)
    (hb : Below W.heap.size W W') : s.post enc P f false true false false W args (.bool true) W' := by
  have hlt := hW.lt
  have hW' := hW
  obtain ⟨p, q, hA, hV, rfl, hfz, hnd⟩ := hW
  refine ⟨ds, gs, p ++ q, [], p, q, hW', ?_, ?_, ?_, hb.frame _, fun h => by cases h⟩
  · rw [h1, hres]
    exact trodAll_cons_mk (shut_bool htb true) trodAll_mk0
  · rw [h2]
    exact trodAll_below hl hb hps (fun x hx => hlt x (by simp [hx])) hA
  · rw [h3]
    exact Below.trodVars hl hb hvs hV
end
end Go.Proofs.YtofmninnienjhaaGreatDoor
