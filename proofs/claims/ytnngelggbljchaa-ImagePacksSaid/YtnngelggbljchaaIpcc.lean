/-
  The proof's lemmas, part 3.
-/
import Derived.Test.YtnngelggbljchaaIpcb
import Derived.Laws.Entries
import Derived.Shelf.Sort.Plain
import Derived.Shelf.SlSortCmp.WholeK
import Derived.Test.YtnngelggbljchaaShelf
namespace Go.Proofs.Ytnngelggbljchaa
set_option linter.unusedSimpArgs false
set_option linter.unusedVariables false
section
open Go.RowKit
section
variable {z : Bool} {P : Program} {tab : Tab} {n m kb lb : Nat} {l : List Oper} {E : Env} {H : Hp} {r : List Stp} {hs : List Hp} {ws : List (Option Wr)} {Hm' : Hp} {X0 : Nat → Prop} {M0 : Mp} {im : List Nat}
theorem cntW_pos {ws : List (Option Wr)} {j : Nat} : ∀ {k : Nat}, j < cntW ws k → ∃ k' w, k' < k ∧ ws[k']? = some (some w) ∧ cntW ws k' = j
  | 0, h => by simp [cntW] at h
  | k + 1, h => by
    by_cases hk : j < cntW ws k
    · obtain ⟨k', w, h1, h2⟩ := cntW_pos hk
      exact ⟨k', w, by omega, h2⟩
    · cases hw : ws[k]? with
      | none =>
        have hl := List.getElem?_eq_none_iff.1 hw
        unfold cntW at h hk
        rw [List.take_of_length_le (by omega)] at h hk
        omega
      | some x =>
        have hkl := (List.getElem?_eq_some_iff.1 hw).1
        have e : ws.take (k + 1) = ws.take k ++ [x] := by rw [List.take_add_one, hw]; rfl
        unfold cntW at h hk
        rw [e, List.filterMap_append, List.length_append] at h
        cases x with
        | none => simp at h; omega
        | some w =>
          simp at h
          exact ⟨k, w, Nat.lt_succ_self _, hw, by unfold cntW; omega⟩
theorem made_or {L : Nat → Prop} {k b : Nat} (h : made r H L b) : made r H (fun j => L j ∨ j = k) b := by obtain ⟨j, s, h1, h2, h3, h4⟩ := h; exact ⟨j, s, h1, h2, .inl h3, h4⟩
theorem lookG_none {G : Hp} {L : Nat → Prop} {k : Nat} {s : Stp} (hs : r[k]? = some s) (hn : s.nb = none) (b : Nat) : lookG r H G (fun j => L j ∨ j = k) b = lookG r H G L b := by
  unfold lookG
  by_cases h : b < H.length ∨ made r H L b
  · rw [if_pos h, if_pos (h.imp id made_or)]
  · rw [if_neg h, if_neg fun hh => h (hh.imp id (made_none hs hn b).1)]
theorem JdS.look [Dr] {L : Nat → Prop} {a : Act} {M : Mp} {j : Nat} (hF : RunF P tab im l m E H r hs ws Hm') (h : JdS n kb (l.take m) r ws E H X0 j L a M) {k : Nat} {hk : Hp} (hkk : hs[k]? = some hk) : LookAt M (lookH hk) := by
  have hkl : k < (l.take m).length := by rw [← hF.hl]; exact (List.getElem?_eq_some_iff.1 hkk).1
  obtain ⟨-, hsn, hdd⟩ := hF.st k _ _ hk _ (List.getElem?_eq_getElem hkl) (List.getElem?_eq_getElem (by rw [hF.rl]; exact hkl)) hkk (List.getElem?_eq_getElem (by rw [hF.wl]; exact hkl))
  intro b B O cells hb hc
  refine Sim.look h.sim b B O cells hb ?_
  have hd := h.sim.D_of hb
  rw [lookH_c] at hc
  rw [cells_some]
  unfold lookG
  rw [if_pos hd, appW_other _ _ fun w hw e => ?_]
  · have e1 := hsn.2 b (by rw [hc]; simp)
    have hlt : b < (hpAt r H k).length := by rw [← hsn.1]; exact blkH_lt (by rw [hc]; simp)
    have hkeep := (hpAt_keep (r := r) (H := H) k r.length (by have := hF.rl; omega) (Nat.le_refl _)).2 b hlt
    rw [hkeep, ← e1]; exact hc
  · have h1 := hdd _ (wOk_dead _ _ hF.ok w (List.mem_of_mem_take hw))
    rw [e, hc] at h1; cases h1
theorem JdS.next [Dr] {L : Nat → Prop} {a : Act} {M M' : Mp} {j j' : Nat} (hO : OrdB l m) (h : JdS n kb (l.take m) r ws E H X0 j L a M) {k : Nat} {o : Oper} {s : Stp} {u : Value} (ho : (l.take m)[k]? = some o) (hs : r[k]? = some s) (hk : ¬ L k) (hd : ∀ d, o.dst = some d → d < n)
    (hE : Evo X0 M M') (hS : Sim (lookG r H (appW ((ws.filterMap id).take j') (hpAt r H r.length)) (fun i => L i ∨ i = k)) (fun b => b < H.length ∨ made r H (fun i => L i ∨ i = k) b) X0 M') (hr : Rep M' s.t u)
    (hcnt : ∀ k' w, ws[k']? = some (some w) → ((L k' ∨ k' = k) ↔ cntW ws k' < j')) (hmk : ∀ w ∈ (ws.filterMap id).take j', w.1 < H.length ∨ made r H (fun i => L i ∨ i = k) w.1) : JdS n kb (l.take m) r ws E H X0 j' (fun i => L i ∨ i = k) (a.put o.dst u) M' := by
  have keep : ∀ d v, o.dst ≠ some d → a.tmps[d]? = some v → (a.put o.dst u).tmps[d]? = some v := fun d v hne hv => by
    cases hod : o.dst with
    | none => exact hv
    | some d' => simp only [Act.put]; rw [Array.getElem?_setIfInBounds_ne (fun e => hne (by rw [hod, e]))]; exact hv
  refine ⟨hS, fun j oj sj d hoj hsj hL hdj => ?_, fun d t ht hno => ?_, ?_, ?_, Nat.le_trans h.ge hE.size, hcnt, hmk⟩
  · by_cases hjk : j = k
    · subst hjk
      rw [ho] at hoj; rw [hs] at hsj
      injection hoj with hoj; injection hsj with hsj; subst hoj hsj
      refine ⟨u, ?_, hr⟩
      rw [hdj]
      simp [Act.put, h.sz, hd d hdj]
    · obtain ⟨v, h1, h2⟩ := h.slot j oj sj d hoj hsj (hL.resolve_right hjk) hdj
      exact ⟨v, keep d v (hO.pair k o j oj ho hoj hjk d hdj).1 h1, Rep.stays hE.stays _ _ h2⟩
  · obtain ⟨v, h1, h2⟩ := h.old d t ht fun j oj hoj hL => hno j oj hoj (.inl hL)
    exact ⟨v, keep d v (hno k o ho (.inr rfl)) h1, Rep.stays hE.stays _ _ h2⟩
  · cases o.dst <;> simp [Act.put, h.sz]
  · cases o.dst <;> exact h.df.evo hE
theorem JdS.step [Dr] (hT : TabOk P tab) (hO : OrdB l m) (hch : chainB l m = true) (hF : RunF P tab im l m E H r hs ws Hm')
    {L : Nat → Prop} {a : Act} {M : Mp} {j : Nat} (h : JdS n kb (l.take m) r ws E H X0 j L a M) (hc : Closed l L) {k : Nat} {o : Oper} (ho : (l.take m)[k]? = some o) (hk : ¬ L k) (hpre : ∀ e ∈ o.after, Region.binds .any e = true → L e.on) (hd : ∀ d, o.dst = some d → d < n)
    {r0 : Option Nat} {Q : Exit → Act → World → Prop} {K : Act → World → Prop} (hK : ∀ a' M' j', Evo X0 M M' → JdS n kb (l.take m) r ws E H X0 j' (fun i => L i ∨ i = k) a' M' → K a' M'.w) : wpOpIn (FW r0) 0 P l.toArray Q k K a M.w := by
  have hr := hF.rl
  have hkl : k < (l.take m).length := (List.getElem?_eq_some_iff.1 ho).1
  have hol : l[k]? = some o := by rw [List.getElem?_take] at ho; split at ho; exact ho; cases ho
  have hkm : k < m := by rw [List.length_take] at hkl; omega
  have hs' : r[k]? = some r[k] := List.getElem?_eq_getElem (by omega)
  obtain ⟨hk', hh'⟩ : ∃ x, hs[k]? = some x := ⟨_, List.getElem?_eq_getElem (by rw [hF.hl]; omega)⟩
  obtain ⟨w, hw'⟩ : ∃ x, ws[k]? = some x := ⟨_, List.getElem?_eq_getElem (by rw [hF.wl]; omega)⟩
  obtain ⟨hstp, hsn, -⟩ := hF.st k o _ _ _ ho hs' hh' hw'
  generalize r[k] = s at hs' hstp
  have hlook := h.look hF hh'
  have hrd := fun (d : Nat) (t : T) => h.read hO hr hc ho hk hpre (d := d) (t := t)
  have hop : ∀ x ∈ o.op.operands.toList, ∀ t, (envAt (l.take m) r E k).opd x = some t → Rep M t (a.eval x) := by
    intro x hx t ht
    cases x with
    | tmp d =>
      obtain ⟨u, h1, h2⟩ := hrd d t (by simp only [readsOf, Oper.looksAt, List.mem_append, List.mem_filterMap]; exact .inl ⟨.tmp d, hx, rfl⟩) ht
      have : a.eval (.tmp d) = u := by show a.tmps.getD d undef = u; simp [h1]
      rw [this]; exact h2
    | const v => simp only [Env.opd] at ht; injection ht with ht; subst ht; exact rep_ofV v
    | func f => simp only [Env.opd] at ht; injection ht with ht; subst ht; exact ⟨[], [], rfl, rfl, rfl⟩
    | global g => simp only [Env.opd] at ht; injection ht with ht; subst ht; exact rfl
  unfold wpOpIn
  simp only [List.getElem?_toArray, hol]
  cases w with
  | some w =>
    obtain ⟨b, q, xs⟩ := w
    obtain ⟨rfl, hg, hdn, t, x, y, tx, i, hoc, hti, hx, hy, rfl, hxl⟩ := hstp
    have hw : Region.wanted o (yielded l.toArray a.tmps) = true := by simp [Region.wanted, hg]
    rw [hw, if_pos rfl]
    have hix := cntW_lt hw'
    have hij : cntW ws k = j := by
      have h1 : ¬ cntW ws k < j := fun hh => hk ((h.cnt k _ hw').2 hh)
      refine Nat.le_antisymm (Nat.le_of_not_lt fun hh => ?_) (by omega)
      obtain ⟨k', w', q1, q2, q3⟩ := cntW_pos hh
      have hk'l : k' < (l.take m).length := by rw [← hF.wl]; exact (List.getElem?_eq_some_iff.1 q2).1
      have ho' : (l.take m)[k']? = some (l.take m)[k'] := List.getElem?_eq_getElem hk'l
      obtain ⟨hst', -, -⟩ := hF.st k' _ _ _ _ ho' (List.getElem?_eq_getElem (by omega)) (List.getElem?_eq_getElem (by rw [hF.hl]; omega)) q2
      obtain ⟨b', q', xs'⟩ := w'
      obtain ⟨-, -, -, t', x', y', tx', i', hoc', -⟩ := hst'
      have hol' : l[k']? = some (l.take m)[k'] := by have := ho'; rw [List.getElem?_take] at this; split at this; exact this; cases this
      have hL := mask_next hO.back hc hol hpre (chain_at hch hkm q1 hol hol' hoc hoc')
      have := (h.cnt k' _ q2).1 hL
      omega
    rw [hij] at hix
    have hsp : ws.filterMap id = (ws.filterMap id).take j ++ (b, q, flat tx) :: (ws.filterMap id).drop (j + 1) := by
      have h1 := (List.getElem?_eq_some_iff.1 hix)
      rw [← h1.2, ← List.drop_eq_getElem_cons h1.1, List.take_append_drop]
    have hok := hF.ok
    rw [hsp] at hok
    obtain ⟨-, cs, k1, k2, k3, k4⟩ := appW_snoc _ _ _ hok
    have htk : (ws.filterMap id).take (j + 1) = (ws.filterMap id).take j ++ [(b, q, flat tx)] := by rw [List.take_add_one, hix]; rfl
    have hrx := hop x (by rw [hoc]; simp [Op.operands]) _ hx
    have hry := hop y (by rw [hoc]; simp [Op.operands]) _ hy
    have hbb : b < H.length ∨ made r H L b := by obtain ⟨B, O, hb, -⟩ := hrx; exact h.sim.D_of hb
    have hbk : lookG r H (appW ((ws.filterMap id).take j) (hpAt r H r.length)) L b = .c cs := by unfold lookG; rw [if_pos hbb]; exact lookH_c.1 k1
    obtain ⟨M', e1, e2, e3⟩ := Sim.stored (P := P) hT h.sim hti hbk hrx hry hxl k2 k3
    have hnd : ∀ c, o.op ≠ .defer c := by rw [hoc]; simp
    refine wpIn_of hnd ?_
    obtain ⟨dst, op, ty, pos, after, guard⟩ := o
    simp only at hoc hdn
    subst hoc hdn
    have hrr : (execOp a.eval ⟨none, .store t x y, ty, pos, after, guard⟩).run P M.w = .ok .skip M'.w := by simp [execOp, e1]
    rw [hrr]
    refine hK _ _ (j + 1) e2 (h.next hO ho hs' hk hd e2 (e3.congr (fun c => ?_) (fun c => by rw [made_none hs' rfl])) (u := undef) rfl (fun k2' w2 hw2 => ?_) (fun w2 hw2 => ?_))
    · rw [lookG_none hs' rfl, htk, k4]
      unfold lookG updL
      by_cases hcb : c = b
      · subst hcb; rw [if_pos hbb, if_pos rfl, blkH_set _ _ _ _ (lookH_lt k1), if_pos rfl]
      · rw [if_neg hcb]
        dsimp only
        by_cases hcd : c < H.length ∨ made r H L c
        · rw [if_pos hcd, if_pos hcd, blkH_set _ _ _ _ (lookH_lt k1), if_neg hcb]
        · rw [if_neg hcd, if_neg hcd]
    · rw [h.cnt k2' w2 hw2]
      constructor
      · rintro (q1 | rfl) <;> omega
      · intro hh
        by_cases h2 : cntW ws k2' < j
        · exact .inl h2
        · refine .inr ?_
          rcases Nat.lt_trichotomy k2' k with q1 | q1 | q1
          · have := cntW_mono q1 hw2; omega
          · exact q1
          · have := cntW_mono q1 hw'; omega
    · rw [htk] at hw2
      rcases List.mem_append.1 hw2 with q1 | q1
      · exact (h.mkd w2 q1).imp id made_or
      · rw [List.mem_singleton] at q1; subst q1; exact hbb.imp id made_or
  | none =>
    have hcn : ∀ k' w, ws[k']? = some (some w) → ((L k' ∨ k' = k) ↔ cntW ws k' < j) := fun k' w hwk => by
      rw [← h.cnt k' w hwk]
      exact ⟨fun hh => hh.resolve_right (fun e => by subst e; rw [hw'] at hwk; injection hwk with hwk; cases hwk), Or.inl⟩
    have hmk : ∀ w ∈ (ws.filterMap id).take j, w.1 < H.length ∨ made r H (fun i => L i ∨ i = k) w.1 := fun w hw => (h.mkd w hw).imp id made_or
    have hgd : ∀ g want d b, o.guard = some (g, want) → (l.toArray[g]?).bind (·.dst) = some d → (envAt (l.take m) r E k).get d = some (.v (.bool b)) → yielded l.toArray a.tmps g = some b := by
      intro g want d b hg hgd hb
      have hgd' : (l[g]?.bind fun x => x.dst) = some d := by simpa using hgd
      obtain ⟨u, h1, h2⟩ := hrd d _ (by simp [readsOf, Oper.looksAt, hg]; exact .inr hgd') hb
      obtain rfl := h2
      simp [yielded, hgd', h1]
    rcases hstp with ⟨h1, h2, g, want, d, x, hg, hgdst, hb, hne⟩ | ⟨hg, hst⟩
    · have hw : Region.wanted o (yielded l.toArray a.tmps) = false := by
        have hgd' : (l[g]?.bind fun x => x.dst) = some d := by simpa using hgdst
        obtain ⟨u, q1, q2⟩ := hrd d _ (by simp [readsOf, Oper.looksAt, hg]; exact .inr hgd') hb
        obtain rfl := q2
        have hy : yielded l.toArray a.tmps g = match u with | .bool b => some b | _ => none := by simp only [yielded, List.getElem?_toArray, hgd', Option.bind_some, q1]; cases u <;> rfl
        simp only [Region.wanted, hg, hy]
        cases u <;> first | rfl | skip
        rename_i b
        cases b <;> cases want <;> first | rfl | exact absurd rfl hne
      rw [hw]
      refine ⟨fun _ _ => trivial, hK _ M j (Evo.refl _ _) (h.next hO ho hs' hk hd (Evo.refl _ _) (h.sim.congr (fun b => lookG_none hs' h2 b) fun b => by rw [made_none hs' h2]) (by rw [h1]; rfl) hcn hmk)⟩
    · have hw : Region.wanted o (yielded l.toArray a.tmps) = true := by
        rcases hg with hg | ⟨g, want, d, hg, hgdst, hb⟩
        · simp [Region.wanted, hg]
        · have hy := hgd g want d want hg hgdst hb
          simp [Region.wanted, hg, hy]
      rw [hw, if_pos rfl]
      have hnd : ∀ c, o.op ≠ .defer c := by
        rcases hst with ⟨t, nb, hm, -⟩ | ⟨f, args, ats, g, fs, cs, ts, hoc, -⟩
        · exact opM_op hm
        · rw [hoc]; simp
      refine wpIn_of hnd ?_
      rcases hst with ⟨t, nb, hm, hst⟩ | ⟨f, args, ats, g, fs, cs, ts, hoc, hf, hts, hcall, hnb⟩
      · have hmk' := opM_ok (M := M) (ρ' := a.eval) hT hlook hop hm
        rcases hst with ⟨hst, hnb⟩ | ⟨⟨e, cs⟩, rfl, hst, hnb⟩
        case inr =>
          obtain ⟨u, w', q1, q2, q3, q4⟩ := imm_new h.sim hmk' (opM_new hm)
          rw [q1]
          exact hK _ _ j q2 (h.next hO ho hs' hk hd q2 ((h.sim.world q2 q3).congr (fun b => lookG_none hs' hnb b) fun b => by rw [made_none hs' hnb]) (by rw [hst]; exact q4) hcn hmk)
        subst hst
        cases nb with
        | none =>
          obtain ⟨u, h1, h2⟩ := hmk'
          rw [h1]
          exact hK _ M j (Evo.refl _ _) (h.next hO ho hs' hk hd (Evo.refl _ _) (h.sim.congr (fun b => lookG_none hs' hnb b) fun b => by rw [made_none hs' hnb]) h2 hcn hmk)
        | some p =>
          obtain ⟨e, cs⟩ := p
          simp only [Option.map_some] at hnb
          rw [hsn.1] at hmk'
          obtain ⟨u, ar, h1, h2, h3⟩ := hmk'
          rw [h1]
          have hid : ¬ (hpAt r H k).length < H.length := by have := (hp_start (r := r) (H := H) (k := k) (by omega)).1; omega
          have hnd' : ¬ made r H L (hpAt r H k).length := by
            rintro ⟨j', s', q1, q2, q3, q4⟩
            exact hk (new_ne q1 q2 hs' (by rw [hnb]; simp) q4 ▸ q3)
          have hnd : ¬ ((hpAt r H k).length < H.length ∨ made r H L (hpAt r H k).length) := fun hh => hh.elim hid hnd'
          obtain ⟨Ev, S, hsh⟩ := h.sim.new (nx := (hpAt r H k).length) hnd (w := { M.w with heap := M.w.heap.push (.cells ar e) }) rfl rfl ⟨rfl, fun _ => Nat.le_refl _⟩ rfl (fun j _ hj => by simp at hj) h2
          have hmade : ∀ b, made r H (fun j => L j ∨ j = k) b ↔ made r H L b ∨ b = (hpAt r H k).length := fun b => by
            constructor
            · rintro ⟨j, s', q1, q2, q3 | q3, q4⟩
              · exact .inl ⟨j, s', q1, q2, q3, q4⟩
              · subst q3; exact .inr q4.symm
            · rintro (⟨j, s', q1, q2, q3, q4⟩ | q)
              · exact ⟨j, s', q1, q2, .inl q3, q4⟩
              · exact ⟨k, s, hs', by rw [hnb]; simp, .inr rfl, q.symm⟩
          refine hK _ (newM M _ _) j Ev (h.next hO ho hs' hk hd Ev (S.congr (fun b => ?_) (fun b => ?_)) (h3 _ (if_pos rfl) hsh) hcn hmk)
          · unfold lookG
            by_cases hb : b = (hpAt r H k).length
            · subst hb
              rw [if_pos (.inr ((hmade _).2 (.inr rfl))), if_pos rfl, appW_other _ _ fun w hw e => ?_]
              · exact (new_at hs' hnb).2
              · have := h.mkd w hw
                rw [e] at this
                exact hnd this
            · rw [if_neg hb]
              by_cases hbD : b < H.length ∨ made r H L b
              · rw [if_pos hbD, if_pos (hbD.imp id fun hh => (hmade b).2 (.inl hh))]
              · rw [if_neg hbD, if_neg fun hh => hbD (hh.imp id fun q => ((hmade b).1 q).resolve_right hb)]
          · rw [hmade, or_assoc]
      · obtain ⟨dst, op, ty, pos, after, guard⟩ := o
        simp only at hoc hop hd
        subst hoc
        obtain ⟨us, vs, e1, r1, r2⟩ := hop f (by simp [Op.operands, Call.operands]) _ hf
        have r3 := optL_ok (M := M) (ρ' := a.eval) _ _ (fun x hx t ht => hop x (by simp [Op.operands, Call.operands]; exact .inr (by simpa using hx)) t ht) hts
        have hrr : (execOp a.eval ⟨dst, .call ⟨.value f, args, ats⟩, ty, pos, after, guard⟩).run P M.w = .ok (.enter g (us ++ args.toList.map a.eval ++ vs).toArray) M.w := by
          simp only [execOp, resolve, Sem.run_bind, e1, Deferred.ofValue, Sem.run_pure, Result.andThen_ok, invoke]
          rw [run_goFunc _ _ _ hcall.2.2.1, ← map_arr]
          simp
        rw [hrr]
        refine ⟨fun hh => (by cases hh), callsIn_wide.2 ((hcall.run X0 M _ h.sim.bnd h.sim.glo (RepL.append (RepL.append r1 r3) r2)).mono ?_)⟩
        rintro e w' ⟨u, rfl, k1, k2, k3⟩
        exact hK _ _ j k1 (h.next hO ho hs' hk hd k1 ((h.sim.world k1 k3).congr (fun b => lookG_none hs' hnb b) fun b => by rw [made_none hs' hnb]) k2 hcn hmk)
theorem JdS.fin [Dr] {L : Nat → Prop} {a : Act} {M : Mp} {j : Nat} (hO : OrdB l m) (hF : RunF P tab im l m E H r hs ws Hm') (h : JdS n kb (l.take m) r ws E H X0 j L a M) (hL : ∀ k, k < (l.take m).length → L k) : St n kb (envAt (l.take m) r E (l.take m).length) (appW (ws.filterMap id) (hpAt r H (l.take m).length)) X0 a M := by
  have hr := hF.rl
  have hdis : ∀ (i j : Nat) (oi oj : Oper), (l.take m)[i]? = some oi → (l.take m)[j]? = some oj → i ≠ j → ∀ d, oi.dst = some d → oj.dst ≠ some d := fun i j oi oj hi hj hij d hdi => (hO.pair j oj i oi hj hi hij d hdi).1
  have hmd : ∀ b, made r H L b ↔ ¬ b < H.length ∧ b < (hpAt r H r.length).length := fun b => by
    constructor
    · rintro ⟨k, s, q1, q2, -, q4⟩
      have hk := (List.getElem?_eq_some_iff.1 q1).1
      obtain ⟨cs, hcs⟩ := Option.ne_none_iff_exists'.1 q2
      have h1 := (new_at (H := H) q1 hcs).1
      have h2 := (hpAt_keep (r := r) (H := H) (k + 1) r.length hk (Nat.le_refl _)).1
      have h3 := (hp_start (r := r) (H := H) (k := k) (by omega)).1
      omega
    · rintro ⟨h1, h2⟩
      obtain ⟨j, s, q1, q2, q3, q4⟩ := made_all (Nat.le_refl _) h2 h1
      exact ⟨j, s, q2, q3, hL j (by omega), q4⟩
  have htk : (ws.filterMap id).take j = ws.filterMap id := by
    refine List.take_of_length_le (Nat.le_of_not_lt fun hh => ?_)
    have e : (ws.filterMap id).length = cntW ws ws.length := by unfold cntW; rw [List.take_length]
    rw [e] at hh
    obtain ⟨k', w, q1, q2, q3⟩ := cntW_pos hh
    have := (h.cnt k' w q2).1 (hL k' (by rw [← hF.wl]; exact q1))
    omega
  refine ⟨fun d t ht => ?_, h.sz, h.df, h.ge, h.sim.congr (fun b => ?_) (fun b => ?_)⟩
  · obtain ⟨g1, g2⟩ := env_get (E := E) (d := d) hr (Nat.le_refl _) hdis
    by_cases hw : ∃ j oj, j < (l.take m).length ∧ (l.take m)[j]? = some oj ∧ oj.dst = some d
    · obtain ⟨j, oj, hj, hoj, hdj⟩ := hw
      have hs : r[j]? = some r[j] := List.getElem?_eq_getElem (by omega)
      rw [g1 j oj _ hj hoj hs hdj] at ht
      injection ht with ht; subst ht
      exact h.slot j oj _ d hoj hs (hL j hj) hdj
    · rw [g2 fun j oj hj hoj hdj => hw ⟨j, oj, hj, hoj, hdj⟩] at ht
      exact h.old d t ht fun j oj hoj _ hdj => hw ⟨j, oj, (List.getElem?_eq_some_iff.1 hoj).1, hoj, hdj⟩
  · rw [← hr, htk]
    unfold lookG
    by_cases hb : b < H.length ∨ made r H L b
    · rw [if_pos hb]
    · rw [if_neg hb]
      refine Classical.byContradiction fun hne => hb ?_
      have hlt := blkH_lt hne
      rw [appW_len] at hlt
      by_cases hbH : b < H.length
      · exact .inl hbH
      · exact .inr ((hmd b).2 ⟨hbH, hlt⟩)
  · rw [← hr, appW_len, hmd]
    have := (hp_start (r := r) (H := H) (k := r.length) (Nat.le_refl _)).1
    omega
end
end
section
open Go.RowKit
section
variable {z : Bool} {P : Program} {tab : Tab} {n m kb lb : Nat} {l : List Oper} {E : Env} {H : Hp} {r : List Stp} {hs : List Hp} {ws : List (Option Wr)} {Hm' : Hp} {X0 : Nat → Prop} {M0 : Mp} {im : List Nat}
theorem draw_anyS [Dr] (hT : TabOk P tab) (hO : OrdB l m) (hch : chainB l m = true) (hd : dstB n l = true) (hF : RunF P tab im l m E H r hs ws Hm')
    {r0 : Option Nat} {Q : Exit → Act → World → Prop} (hQ : ∀ a M, Evo X0 M0 M → St n kb (envAt (l.take m) r E (l.take m).length) (appW (ws.filterMap id) (hpAt r H (l.take m).length)) X0 a M → wpListIn (FW r0) 0 P l.toArray Q (l.drop m) a M.w) :
    ∀ (fuel : Nat) (listed : Array Bool) (a : Act) (M : Mp) (j : Nat), leftB l listed ≤ fuel → listed.size = l.length → Closed l (lsd listed) → (∀ k, m ≤ k → ¬ lsd listed k) → Evo X0 M0 M → JdS n kb (l.take m) r ws E H X0 j (lsd listed) a M → wpAnyIn (FW r0) 0 P .any l.toArray Q fuel listed a M.w := by
  have hml : (l.take m).length = m := by rw [List.length_take]; have := hO.le; omega
  intro fuel
  have fin : ∀ (fuel : Nat) (listed : Array Bool) (a : Act) (M : Mp) (j : Nat), leftB l listed ≤ fuel → listed.size = l.length → (∀ k, m ≤ k → ¬ lsd listed k) → (∀ k, k < m → lsd listed k) → Evo X0 M0 M → JdS n kb (l.take m) r ws E H X0 j (lsd listed) a M → wpAnyIn (FW r0) 0 P .any l.toArray Q fuel listed a M.w := by
    intro fuel listed a M j hf hsz hno hall hE hJ
    refine tail_any hO fuel listed m a M.w ?_ hsz (Nat.le_refl _) hO.le (fun k => ⟨fun h => ?_, hall k⟩) (hQ a M hE (hJ.fin hO hF fun k hk => hall k (by omega)))
    · have h1 : leftB l listed = l.length - m := by
        unfold leftB
        have e : List.range l.length = List.range m ++ (List.range (l.length - m)).map (m + ·) := by
          rw [← List.range_add, show m + (l.length - m) = l.length from by have := hO.le; omega]
        rw [e, List.countP_append]
        have e1 : (List.range m).countP (fun k => !listed.getD k false) = 0 := by
          rw [List.countP_eq_zero]
          intro k hk
          have := hall k (List.mem_range.1 hk)
          unfold lsd at this
          simpa using this
        have e2 : ((List.range (l.length - m)).map (m + ·)).countP (fun k => !listed.getD k false) = l.length - m := by
          rw [List.countP_eq_length.2]
          · simp
          · intro k hk
            rw [List.mem_map] at hk
            obtain ⟨q, -, rfl⟩ := hk
            have := hno (m + q) (by omega)
            unfold lsd at this
            simpa using this
        omega
      omega
    · exact Nat.lt_of_not_le fun hk => hno k hk h
  induction fuel with
  | zero =>
    intro listed a M j hf hsz hc hno hE hJ
    by_cases hall : ∀ k, k < m → lsd listed k
    · exact fin 0 listed a M j hf hsz hno hall hE hJ
    · exfalso
      have h0 : leftB l listed = 0 := by omega
      unfold leftB at h0
      rw [List.countP_eq_zero] at h0
      apply hall
      intro k hk
      have := h0 k (List.mem_range.2 (by have := hO.le; omega))
      unfold lsd
      simpa using this
  | succ fuel ih =>
    intro listed a M j hf hsz hc hno hE hJ
    by_cases hall : ∀ k, k < m → lsd listed k
    · exact fin _ listed a M j hf hsz hno hall hE hJ
    · have hnext : ∃ i o, i < m ∧ l[i]? = some o ∧ ¬ lsd listed i ∧ ∀ e ∈ o.after, Region.binds .any e = true → lsd listed e.on := by
        have hex : ∃ k, k < m ∧ ¬ lsd listed k := by
          apply Classical.byContradiction
          intro h
          exact hall fun k hk => Classical.byContradiction fun hn => h ⟨k, hk, hn⟩
        obtain ⟨i, ⟨h1, h2⟩, hmin⟩ := least_nat hex
        have hile : i < l.length := by have := hO.le; omega
        have ho : l[i]? = some l[i] := List.getElem?_eq_getElem hile
        refine ⟨i, _, h1, ho, h2, fun e he hb => ?_⟩
        have hlt := back_at l 0 i _ hO.back ho e he hb
        exact Classical.byContradiction fun hn => by have := hmin e.on ⟨by omega, hn⟩; omega
      refine ⟨fun hr0 => ?_, fun i hi => ?_⟩
      · obtain ⟨i, o, h1, h2, h3, h4⟩ := hnext
        have := ready_of hsz h2 h3 h4
        rw [hr0] at this; cases this
      · obtain ⟨o, ho, hn, hp⟩ := ready_facts hsz hi
        have hil := (List.getElem?_eq_some_iff.1 ho).1
        have him : i < m := by
          refine Nat.lt_of_not_le fun hmi => ?_
          apply hall
          intro k hk
          exact mask_next hO.back hc ho hp (hO.full i hmi hil k (by omega))
        have hop : (l.take m)[i]? = some o := by rw [List.getElem?_take, if_pos him]; exact ho
        have hdo : ∀ d, o.dst = some d → d < n := fun d hdd => by
          unfold dstB at hd
          rw [List.all_eq_true] at hd
          have := hd o (List.mem_of_getElem? ho)
          rw [hdd] at this; simpa using this
        refine JdS.step hT hO hch hF hJ hc hop hn hp hdo fun a' M' j' hE' hJ' => ?_
        have hiff : ∀ k, lsd (listed.setIfInBounds i true) k ↔ lsd listed k ∨ k = i := lsd_set (by omega)
        have hfun : lsd (listed.setIfInBounds i true) = fun k => lsd listed k ∨ k = i := funext fun k => propext (hiff k)
        refine ih _ a' M' j' ?_ (by simpa using hsz) (fun k ok hok hk e he hb => ?_) (fun k hk h => ?_) (hE.trans hE') (by rw [hfun]; exact hJ')
        · have := leftB_set hsz hil hn; omega
        · rw [hiff] at hk ⊢
          rcases hk with hk | rfl
          · exact .inl (hc k ok hok hk e he hb)
          · rw [ho] at hok; injection hok with hok; subst hok; exact .inl (hp e he hb)
        · rcases (hiff k).1 h with h | h
          · exact hno k hk h
          · omega
theorem VC.drawS [Dr] {id : Nat} {QT : Exit → Env → Hp → Prop} (hT : TabOk P tab) (im : List Nat) (m : Nat) (hm : P.follows .mixedOrders = true) (hB : drawB n m l = true) (hch : chainB l m = true) {Hm : Hp} (hsn : seen Hm H)
    (h : ∃ r hs ws E' Hm' F', RunS P tab im l.toArray (l.take m) E Hm H r hs ws E' Hm' F' ∧ wOk Hm' (ws.filterMap (·)) F' ∧ vcSeq P tab im (l.map (·.dst)) (l.drop m) E' (appW (ws.filterMap (·)) F') (QT .normal)) : VC z P n lb (.region id l.toArray true) QT E H := by
  intro X0 M a r0 kb hz hs
  obtain ⟨hO, hd⟩ := ord_of hB
  obtain ⟨r, hs', ws, E', Hm', F', hrun, hok, hk⟩ := h
  obtain ⟨h1, h2, h3, h4, h5, h6, -⟩ := runS_at hrun hsn
  have hF : RunF P tab im l m E H r hs' ws Hm' := ⟨h1, h2, h3, h6, by rw [h1, ← h5]; exact hok⟩
  refine wpIn_region_any hm ?_
  let M1 : Mp := ⟨M.β, M.X, { M.w with drawn := M.w.drawn + 1 }⟩
  have hE1 : Evo X0 M M1 := ⟨fun _ _ h => h, fun _ _ h => h, fun _ _ _ => rfl, fun _ _ h => h, rfl, ⟨rfl, fun _ => Nat.le_succ _⟩, rfl, Nat.le_refl _⟩
  have hs1 : St n kb E H X0 a M1 := ⟨fun d t ht => by obtain ⟨u, q1, q2⟩ := hs.tm d t ht; exact ⟨u, q1, Rep.stays hE1.stays _ _ q2⟩, hs.sz, hs.df.evo hE1, hs.ge, hs.sim.world hE1 fun _ _ => rfl⟩
  have hno : ∀ k, ¬ lsd (Array.replicate l.toArray.size false) k := fun k hk => by
    unfold lsd at hk
    by_cases hlt : k < l.length
    · simp [hlt] at hk
    · simp [hlt] at hk
  have hmd : ∀ b, ¬ made r H (lsd (Array.replicate l.toArray.size false)) b := fun b ⟨k, s, _, _, hk, _⟩ => hno k hk
  have := draw_anyS (r0 := r0) (X0 := X0) (M0 := M) (Q := Lift n kb lb X0 M QT) hT hO hch hd hF (fun a' M' hE' hs' => by
    rw [← h4, ← h5] at hs'
    refine vcSeq_ok (im := im) hT _ ?_ hs' (fun E2 H2 a2 M2 k1 k2 k3 => ⟨E2, H2, M2, k1, rfl, (hE'.trans k2).toK lb, k3⟩) hk
    unfold dstB at hd ⊢
    rw [List.all_eq_true] at hd ⊢
    exact fun o ho => hd o (List.mem_of_mem_drop ho)) l.toArray.size (Array.replicate l.toArray.size false) a M1 0 (Nat.le_trans List.countP_le_length (by simp)) (by simp) (fun k o _ hk => absurd hk (hno k)) (fun k _ => hno k) hE1
    ⟨hs1.sim.congr (fun b => by
        unfold lookG
        rw [List.take_zero]
        by_cases hb : b < H.length
        · rw [if_pos (.inl hb)]; exact (hp_start (Nat.le_refl _)).2 b hb
        · rw [if_neg fun hh => hh.elim hb (hmd b)]
          exact Classical.byContradiction fun hne => hb (blkH_lt fun e => hne (by rw [e]))) (fun b => ⟨fun h => h.elim (fun h => h) fun h => absurd h (hmd b), .inl⟩),
     fun k o s d _ _ hk => absurd hk (hno k), fun d t ht _ => hs1.tm d t ht, hs1.sz, hs1.df, hs1.ge, fun k w _ => ⟨fun hk => absurd hk (hno k), fun hh => by omega⟩, fun w hw => by rw [List.take_zero] at hw; cases hw⟩
  exact this
end
def VS [Dr] (P : Program) (tab : Tab) (im : List Nat) (ops : Array Oper) (l : List Oper) (E : Env) (Hm F : Hp) (W : List Wr) (K : Env → Hp → Prop) : Prop :=
  ∀ E2, Sub E E2 → ∃ r hs ws E' Hm' F', RunS P tab im ops l E2 Hm F r hs ws E' Hm' F' ∧ wOk Hm' (W ++ ws.filterMap (·)) F' ∧ ∃ E1, Sub E1 E' ∧ K E1 (appW (W ++ ws.filterMap (·)) F')
section
variable {z : Bool} {P : Program} {tab : Tab} {n lb : Nat} {im : List Nat} {ops : Array Oper} {l : List Oper} {E : Env} {Hm F : Hp} {W : List Wr} {K : Env → Hp → Prop}
theorem VS.nil [Dr] (hw : wOk Hm W F) (h : K E (appW W F)) : VS P tab im ops [] E Hm F W K := fun E2 he =>
  ⟨[], [], [], E2, Hm, F, .nil _ _ _, by simpa using hw, E, he, by simpa using h⟩
theorem VS.hid [Dr] {d : Nat} {op : Op} {ty : TypeId} {pos : String} {after : Array Edge} {t : T} {e : Nat} {cs : List T} (h : opM tab (lookH Hm) Hm.length E.opd op = some (t, some (e, cs))) (k : VS P tab im ops l ((d, t) :: E) (Hm ++ [.d]) (F ++ [.c cs]) W K) : VS P tab im ops (⟨some d, op, ty, pos, after, none⟩ :: l) E Hm F W K := fun E2 he => by
  obtain ⟨r, hs, ws, E', Hm', F', h1, h2, h3⟩ := k _ (he.put d t)
  exact ⟨⟨t, some cs⟩ :: r, Hm :: hs, none :: ws, E', Hm', F', .one (s := ⟨t, some cs⟩) (.inr ⟨.inl rfl, .inl ⟨t, some (e, cs), opM_mono (fun x s hx => he.opd hx) h, .inl ⟨rfl, rfl⟩⟩⟩) (.inr ⟨by simp, rfl⟩) h1, by simpa using h2, by simpa using h3⟩
theorem VS.sto [Dr] {t : Nat} {a x : Operand} {ty : TypeId} {pos : String} {after : Array Edge} {b q : Nat} {tx : T} {i : TyI} (hT : tab t = some i) (ha : E.opd a = some (.ptr b q)) (hx : E.opd x = some tx) (hl : (flat tx).length = i.sz) (k : VS P tab im ops l E Hm F (W ++ [(b, q, flat tx)]) K) : VS P tab im ops (⟨none, .store t a x, ty, pos, after, none⟩ :: l) E Hm F W K := fun E2 he => by
  obtain ⟨r, hs, ws, E', Hm', F', h1, h2, h3⟩ := k _ he
  refine ⟨⟨.v undef, none⟩ :: r, Hm :: hs, some (b, q, flat tx) :: ws, E', Hm', F', .sto rfl rfl rfl hT (he.opd ha) (he.opd hx) hl h1, ?_, ?_⟩
  · simpa using h2
  · simpa using h3
theorem run_ext [Dr] {P : Program} {tab : Tab} {im : List Nat} {ops : Array Oper} {l : List Oper} {E : Env} {H : Hp} {r : List Stp} {E' : Env} {H' : Hp} (h : Run P tab im ops l E H r E' H') : ∃ x, H' = H ++ x := by
  induction h with
  | nil E H => exact ⟨[], by simp⟩
  | cons h k ih => obtain ⟨x, hx⟩ := ih; exact ⟨_, by rw [hx, List.append_assoc]⟩
theorem run_runS [Dr] {l1 l2 : List Oper} {E1 : Env} {H1 : Hp} {r1 : List Stp} (h : Run P tab im ops l1 E Hm r1 E1 H1) : ∀ {F : Hp} {r : List Stp} {hs : List Hp} {ws : List (Option Wr)} {E' : Env} {Hm' F' : Hp}, RunS P tab im ops l2 E1 H1 (F ++ H1.drop Hm.length) r hs ws E' Hm' F' →
    ∃ r' hs' ws', RunS P tab im ops (l1 ++ l2) E Hm F r' hs' ws' E' Hm' F' ∧ ws'.filterMap (·) = ws.filterMap (·) := by
  induction h with
  | nil E H => intro F r hs ws E' Hm' F' k; rw [List.drop_length, List.append_nil] at k; exact ⟨r, hs, ws, k, rfl⟩
  | @cons o l E H s r1 E1 H1 h k ih =>
    intro F r hs ws E' Hm' F' k2
    obtain ⟨x, hx⟩ := run_ext k
    have e : F ++ H1.drop H.length = (F ++ newsOf s.nb) ++ H1.drop (H ++ newsOf s.nb).length := by
      subst hx
      rw [List.append_assoc, List.append_assoc, List.drop_left, ← List.append_assoc H, List.drop_left]
    rw [e] at k2
    obtain ⟨r', hs', ws', g1, g2⟩ := ih k2
    exact ⟨_, _, _, .one h (.inl rfl) g1, by simpa using g2⟩
theorem VS.seg [Dr] {l1 l2 : List Oper} (hl : l = l1 ++ l2) (h : VX true P tab im (ops.toList.map (·.dst)) l1 E Hm fun E1 H1 => VS P tab im ops l2 E1 H1 (F ++ H1.drop Hm.length) W K) : VS P tab im ops l E Hm F W K := fun E2 he => by
  subst hl
  obtain ⟨r1, E1, H1, hr, E3, he3, hv⟩ := vcDraw_run (ops := ops) _ _ _ (h E2 he)
  obtain ⟨r, hs, ws, E', Hm', F', k1, k2, k3⟩ := hv _ he3
  obtain ⟨r', hs', ws', g1, g2⟩ := run_runS hr k1
  exact ⟨r', hs', ws', E', Hm', F', g1, by rw [g2]; exact k2, by rw [g2]; exact k3⟩
end
section
variable {z : Bool} {P : Program} {tab : Tab} {n lb : Nat} {E : Env} {H : Hp} {QT : Exit → Env → Hp → Prop}
theorem VC.drwSN [Dr] {id : Nat} {l l2 : List Oper} (hT : TabOk P tab) (im : List Nat) (l1 : List Oper) (Hm : Hp) (hl : l = l1 ++ l2) (hm : P.follows .mixedOrders = true) (hB : drawB n l1.length l = true) (hch : chainB l l1.length = true) (hsn : seen Hm H) (h : VS P tab im l.toArray l1 E Hm H [] fun E H => VX false P tab im (l.map (·.dst)) l2 E H (QT .normal)) : VC z P n lb (.region id l.toArray true) QT E H := by
  have e1 : l.take l1.length = l1 := by rw [hl, List.take_left]
  have e2 : l.drop l1.length = l2 := by rw [hl, List.drop_left]
  obtain ⟨r, hs, ws, E', Hm', F', h1, h2, E1, h3, h4⟩ := h E (Sub.refl E)
  refine VC.eqv (VC.drawS hT im l1.length hm hB hch hsn ⟨r, hs, ws, E', Hm', F', by rw [e1]; exact h1, by simpa using h2, ?_⟩)
  rw [e2]
  have := h4 E' h3
  simpa using this
theorem VC.drwS [Dr] {id : Nat} {l l2 : List Oper} {c : Code} (hT : TabOk P tab) (im : List Nat) (l1 : List Oper) (Hm : Hp) (hl : l = l1 ++ l2) (hm : P.follows .mixedOrders = true) (hB : drawB n l1.length l = true) (hch : chainB l l1.length = true) (hsn : seen Hm H) (h : VS P tab im l.toArray l1 E Hm H [] fun E H => VX false P tab im (l.map (·.dst)) l2 E H fun E H => VC z P n lb c QT E H) : VC z P n lb (.seq (.region id l.toArray true) c) QT E H := VC.seq (VC.drwSN hT im l1 Hm hl hm hB hch hsn h)
theorem seen_refl (H : Hp) : seen H H := ⟨rfl, fun _ _ => rfl⟩
end
end
section
open Go.RowKit
def seenL (Hm F : Hp) : Prop := Hm.length ≤ F.length ∧ ∀ b, blkH Hm b ≠ .d → blkH Hm b = blkH F b
def WrOp [Dr] (P : Program) (tab : Tab) (o : Oper) (E : Env) (F F1 : Hp) (t : T) : Prop :=
  (∃ f args ats g us vs ts, o.op = .call ⟨.value f, args, ats⟩ ∧ E.opd f = some (.clo g us vs) ∧ optL E.opd args.toList = some ts ∧ CallT P g (us ++ ts ++ vs) F (fun u H' => u = t ∧ H' = F1)) ∨
  (∃ x y t1 t2 ta tb, o.op = .call ⟨.builtin .append, #[x, y], #[t1, t2]⟩ ∧ E.opd x = some ta ∧ E.opd y = some tb ∧ mAppend tab F t1 t2 ta tb = some (t, F1)) ∨
  (∃ p : Nat × List T, opM tab (lookH F) F.length E.opd o.op = some (t, some p) ∧ F1 = F ++ [.c p.2]) ∨
  (∃ t0 a x ta tx, o.op = .store t0 a x ∧ E.opd a = some ta ∧ E.opd x = some tx ∧ mStore tab F t0 ta tx = some F1 ∧ t = .v undef)
def LkOp [Dr] (P : Program) (o : Oper) (E : Env) (Hm : Hp) (t : T) : Prop :=
  ∃ f args ats g us vs ts, o.op = .call ⟨.value f, args, ats⟩ ∧ E.opd f = some (.clo g us vs) ∧ optL E.opd args.toList = some ts ∧ ∀ G, seenL Hm G → CallT P g (us ++ ts ++ vs) G (fun u H' => u = t ∧ H' = G)
inductive RunC [Dr] (P : Program) (tab : Tab) (im : List Nat) (ops : Array Oper) (Hm : Hp) : List Oper → Env → Hp → List Stp → List Hp → List Bool → Env → Hp → Prop
  | nil (E : Env) (F : Hp) : RunC P tab im ops Hm [] E F [] [] [] E F
  | one {o : Oper} {l : List Oper} {E : Env} {F : Hp} {s : Stp} {r : List Stp} {fs : List Hp} {ws : List Bool} {E' : Env} {F' : Hp} (h : StpOk P tab im ops o E Hm s) (hn : s.nb = none)
      (k : RunC P tab im ops Hm l (E.put o.dst s.t) F r fs ws E' F') : RunC P tab im ops Hm (o :: l) E F (s :: r) fs (false :: ws) E' F'
  | look {o : Oper} {l : List Oper} {E : Env} {F : Hp} {t : T} {r : List Stp} {fs : List Hp} {ws : List Bool} {E' : Env} {F' : Hp} (hg : o.guard = none) (ho : LkOp P o E Hm t)
      (k : RunC P tab im ops Hm l (E.put o.dst t) F r fs ws E' F') : RunC P tab im ops Hm (o :: l) E F (⟨t, none⟩ :: r) fs (false :: ws) E' F'
  | call {o : Oper} {l : List Oper} {E : Env} {F F1 : Hp} {t : T} {r : List Stp} {fs : List Hp} {ws : List Bool} {E' : Env} {F' : Hp} (hg : o.guard = none) (ho : WrOp P tab o E F F1 t)
      (hs : seenL Hm F1) (k : RunC P tab im ops Hm l (E.put o.dst t) F1 r fs ws E' F') : RunC P tab im ops Hm (o :: l) E F (⟨t, none⟩ :: r) (F1 :: fs) (true :: ws) E' F'
def cntB (ws : List Bool) (k : Nat) : Nat := (ws.take k).countP (fun x => x)
def StpC [Dr] (P : Program) (tab : Tab) (im : List Nat) (ops : Array Oper) (Hm : Hp) (o : Oper) (E : Env) (F F1 : Hp) (s : Stp) : Bool → Prop
  | false => StpOk P tab im ops o E Hm s ∨ (o.guard = none ∧ LkOp P o E Hm s.t)
  | true => o.guard = none ∧ WrOp P tab o E F F1 s.t
theorem runC_at [Dr] {P : Program} {tab : Tab} {im : List Nat} {ops : Array Oper} {Hm : Hp} {l : List Oper} {E : Env} {F : Hp} {r : List Stp} {fs : List Hp} {ws : List Bool} {E' : Env} {F' : Hp} (h : RunC P tab im ops Hm l E F r fs ws E' F') (hsn : seenL Hm F) :
    r.length = l.length ∧ ws.length = l.length ∧ fs.length = cntB ws ws.length ∧ E' = envAt l r E l.length ∧ (∀ (j : Nat) (G : Hp), (F :: fs)[j]? = some G → seenL Hm G) ∧ (F :: fs)[fs.length]? = some F' ∧ (∀ s ∈ r, s.nb = none) ∧
      ∀ (k : Nat) (o : Oper) (s : Stp) (w : Bool), l[k]? = some o → r[k]? = some s → ws[k]? = some w → ∃ G G1 : Hp, (F :: fs)[cntB ws k]? = some G ∧ (w = true → (F :: fs)[cntB ws k + 1]? = some G1) ∧ StpC P tab im ops Hm o (envAt l r E k) G G1 s w := by
  induction h with
  | nil E F => exact ⟨rfl, rfl, rfl, rfl, fun j G hj => by cases j with | zero => simp at hj; subst hj; exact hsn | succ j => simp at hj, rfl, by simp, fun k o s w h => by simp at h⟩
  | @one o l E F s r fs ws E' F' h hn k ih =>
    obtain ⟨h1, h2, h3, h4, h5, h6, h7, h8⟩ := ih hsn
    have hc : ∀ k, cntB (false :: ws) (k + 1) = cntB ws k := fun k => by simp [cntB]
    refine ⟨by simp [h1], by simp [h2], by rw [List.length_cons, hc]; exact h3, h4, h5, h6, fun s' hs' => ?_, fun j o' s' w ho hs' hw => ?_⟩
    · rcases List.mem_cons.1 hs' with rfl | hs'
      · exact hn
      · exact h7 s' hs'
    · cases j with
      | zero => simp at ho hs' hw; subst ho hs' hw; exact ⟨F, F, by simp [cntB], fun hh => (by cases hh), .inl h⟩
      | succ j =>
        obtain ⟨G, G1, g1, g2, g3⟩ := h8 j o' s' w (by simpa using ho) (by simpa using hs') (by simpa using hw)
        exact ⟨G, G1, by rw [hc]; exact g1, by rw [hc]; exact g2, g3⟩
  | @look o l E F t r fs ws E' F' hg ho k ih =>
    obtain ⟨h1, h2, h3, h4, h5, h6, h7, h8⟩ := ih hsn
    have hc : ∀ k, cntB (false :: ws) (k + 1) = cntB ws k := fun k => by simp [cntB]
    refine ⟨by simp [h1], by simp [h2], by rw [List.length_cons, hc]; exact h3, h4, h5, h6, fun s' hs' => ?_, fun j o' s' w ho hs' hw => ?_⟩
    · rcases List.mem_cons.1 hs' with rfl | hs'
      · rfl
      · exact h7 s' hs'
    · cases j with
      | zero => simp at ho hs' hw; subst ho hs' hw; exact ⟨F, F, by simp [cntB], fun hh => (by cases hh), .inr ⟨hg, ho⟩⟩
      | succ j =>
        obtain ⟨G, G1, g1, g2, g3⟩ := h8 j o' s' w (by simpa using ho) (by simpa using hs') (by simpa using hw)
        exact ⟨G, G1, by rw [hc]; exact g1, by rw [hc]; exact g2, g3⟩
  | @call o l E F F1 t r fs ws E' F' hg ho hs k ih =>
    obtain ⟨h1, h2, h3, h4, h5, h6, h7, h8⟩ := ih hs
    have hc : ∀ k, cntB (true :: ws) (k + 1) = cntB ws k + 1 := fun k => by simp [cntB]
    refine ⟨by simp [h1], by simp [h2], by rw [List.length_cons, List.length_cons, hc]; omega, h4, fun j G hj => ?_, by simpa using h6, fun s' hs' => ?_, fun j o' s' w ho' hs' hw => ?_⟩
    · cases j with
      | zero => simp at hj; subst hj; exact hsn
      | succ j => exact h5 j G (by simpa using hj)
    · rcases List.mem_cons.1 hs' with rfl | hs'
      · rfl
      · exact h7 s' hs'
    · cases j with
      | zero => simp at ho' hs' hw; subst ho' hs' hw; exact ⟨F, F1, by simp [cntB], fun _ => by simp [cntB], hg, ho⟩
      | succ j =>
        obtain ⟨G, G1, g1, g2, g3⟩ := h8 j o' s' w (by simpa using ho') (by simpa using hs') (by simpa using hw)
        refine ⟨G, G1, by rw [hc]; simpa using g1, fun hh => by rw [hc]; simpa using g2 hh, ?_⟩
        exact g3
section
variable {z : Bool} {P : Program} {tab : Tab} {n m kb lb : Nat} {l : List Oper} {E : Env} {Hm : Hp} {Fs : List Hp} {r : List Stp} {ws : List Bool} {X0 : Nat → Prop} {M0 : Mp} {im : List Nat}
structure JdC [Dr] (n kb : Nat) (pre : List Oper) (r : List Stp) (Fs : List Hp) (ws : List Bool) (E : Env) (X0 : Nat → Prop) (j : Nat) (L : Nat → Prop) (a : Act) (M : Mp) : Prop where
  sim : ∃ G, Fs[j]? = some G ∧ SimH G X0 M
  slot : ∀ k o s d, pre[k]? = some o → r[k]? = some s → L k → o.dst = some d → ∃ u, a.tmps[d]? = some u ∧ Rep M s.t u
  old : ∀ d t, E.get d = some t → (∀ k o, pre[k]? = some o → L k → o.dst ≠ some d) → ∃ u, a.tmps[d]? = some u ∧ Rep M t u
  sz : a.tmps.size = n
  df : Marks kb a.defers M
  ge : kb ≤ M.w.heap.size
  cnt : ∀ k, ws[k]? = some true → (L k ↔ cntB ws k < j)
structure RunCF [Dr] (P : Program) (tab : Tab) (im : List Nat) (l : List Oper) (m : Nat) (E : Env) (Hm : Hp) (r : List Stp) (Fs : List Hp) (ws : List Bool) : Prop where
  rl : r.length = (l.take m).length
  wl : ws.length = (l.take m).length
  nb : ∀ s ∈ r, s.nb = none
  sn : ∀ (j : Nat) (G : Hp), Fs[j]? = some G → seenL Hm G
  st : ∀ (k : Nat) (o : Oper) (s : Stp) (w : Bool), (l.take m)[k]? = some o → r[k]? = some s → ws[k]? = some w → ∃ G G1 : Hp, Fs[cntB ws k]? = some G ∧ (w = true → Fs[cntB ws k + 1]? = some G1) ∧ StpC P tab im l.toArray Hm o (envAt (l.take m) r E k) G G1 s w
  /-- calls keep the text's order -/
  ch : ∀ k j, k < m → j < k → ws[k]? = some true → ws[j]? = some true → ((masks l []).getD k 0).testBit j = true
theorem cntB_pos {ws : List Bool} {j : Nat} : ∀ {k : Nat}, j < cntB ws k → ∃ k', k' < k ∧ ws[k']? = some true ∧ cntB ws k' = j
  | 0, h => by simp [cntB] at h
  | k + 1, h => by
    by_cases hk : j < cntB ws k
    · obtain ⟨k', h1, h2⟩ := cntB_pos hk
      exact ⟨k', by omega, h2⟩
    · cases hw : ws[k]? with
      | none =>
        have hl := List.getElem?_eq_none_iff.1 hw
        unfold cntB at h hk
        rw [List.take_of_length_le (by omega)] at h hk
        omega
      | some x =>
        have e : ws.take (k + 1) = ws.take k ++ [x] := by rw [List.take_add_one, hw]; rfl
        unfold cntB at h hk
        rw [e, List.countP_append] at h
        cases x with
        | false => simp at h; omega
        | true =>
          simp at h
          exact ⟨k, Nat.lt_succ_self _, hw, by unfold cntB; omega⟩
theorem cntB_mono {ws : List Bool} {k k' : Nat} (h : k < k') (hw : ws[k]? = some true) : cntB ws k < cntB ws k' := by
  have e1 : cntB ws (k + 1) = cntB ws k + 1 := by
    unfold cntB
    rw [List.take_add_one, hw, List.countP_append]; simp
  have e2 : cntB ws (k + 1) ≤ cntB ws k' := by
    unfold cntB
    exact (List.take_sublist_take_left (by omega)).countP_le
  omega
theorem JdC.read [Dr] {L : Nat → Prop} {a : Act} {M : Mp} {j0 : Nat} (hO : OrdB l m) (hr : r.length = (l.take m).length) (h : JdC n kb (l.take m) r Fs ws E X0 j0 L a M) (hc : Closed l L) {k : Nat} {o : Oper} (ho : (l.take m)[k]? = some o) (hk : ¬ L k) (hpre : ∀ e ∈ o.after, Region.binds .any e = true → L e.on)
    {d : Nat} {t : T} (hd : d ∈ readsOf l.toArray o) (ht : (envAt (l.take m) r E k).get d = some t) : ∃ u, a.tmps[d]? = some u ∧ Rep M t u := by
  have hkl : k < (l.take m).length := (List.getElem?_eq_some_iff.1 ho).1
  have hol : l[k]? = some o := by rw [List.getElem?_take] at ho; split at ho; exact ho; cases ho
  have hdis : ∀ (i j : Nat) (oi oj : Oper), (l.take m)[i]? = some oi → (l.take m)[j]? = some oj → i ≠ j → ∀ d, oi.dst = some d → oj.dst ≠ some d := fun i j oi oj hi hj hij d hdi => (hO.pair j oj i oi hj hi hij d hdi).1
  obtain ⟨g1, g2⟩ := env_get (E := E) (d := d) hr (Nat.le_of_lt hkl) hdis
  by_cases hw : ∃ j oj, j < k ∧ (l.take m)[j]? = some oj ∧ oj.dst = some d
  · obtain ⟨j, oj, hj, hoj, hdj⟩ := hw
    have hs : r[j]? = some r[j] := List.getElem?_eq_getElem (by omega)
    rw [g1 j oj _ hj hoj hs hdj] at ht
    injection ht with ht; subst ht
    have hm := (hO.pair k o j oj ho hoj (by omega) d hdj).2 hd
    rw [if_pos hj] at hm
    exact h.slot j oj _ d hoj hs (mask_next hO.back hc hol hpre hm) hdj
  · rw [g2 fun j oj hj hoj hdj => hw ⟨j, oj, hj, hoj, hdj⟩] at ht
    refine h.old d t ht fun j oj hoj hLj hdj => ?_
    by_cases hjk : j = k
    · subst hjk; exact hk hLj
    · have hm := (hO.pair k o j oj ho hoj hjk d hdj).2 hd
      by_cases hlt : j < k
      · exact hw ⟨j, oj, hlt, hoj, hdj⟩
      · rw [if_neg hlt] at hm
        exact hk (mask_listed hO.back hc j hLj k hm)
theorem JdC.next [Dr] {L : Nat → Prop} {a : Act} {M M' : Mp} {j j' : Nat} (hO : OrdB l m) (h : JdC n kb (l.take m) r Fs ws E X0 j L a M) {k : Nat} {o : Oper} {s : Stp} {u : Value} (ho : (l.take m)[k]? = some o) (hs : r[k]? = some s) (hk : ¬ L k) (hd : ∀ d, o.dst = some d → d < n)
    (hE : Evo X0 M M') (hS : ∃ G, Fs[j']? = some G ∧ SimH G X0 M') (hr : Rep M' s.t u)
    (hcnt : ∀ k', ws[k']? = some true → ((L k' ∨ k' = k) ↔ cntB ws k' < j')) : JdC n kb (l.take m) r Fs ws E X0 j' (fun i => L i ∨ i = k) (a.put o.dst u) M' := by
  have keep : ∀ d v, o.dst ≠ some d → a.tmps[d]? = some v → (a.put o.dst u).tmps[d]? = some v := fun d v hne hv => by
    cases hod : o.dst with
    | none => exact hv
    | some d' => simp only [Act.put]; rw [Array.getElem?_setIfInBounds_ne (fun e => hne (by rw [hod, e]))]; exact hv
  refine ⟨hS, fun j oj sj d hoj hsj hL hdj => ?_, fun d t ht hno => ?_, ?_, ?_, Nat.le_trans h.ge hE.size, hcnt⟩
  · by_cases hjk : j = k
    · subst hjk
      rw [ho] at hoj; rw [hs] at hsj
      injection hoj with hoj; injection hsj with hsj; subst hoj hsj
      refine ⟨u, ?_, hr⟩
      rw [hdj]
      simp [Act.put, h.sz, hd d hdj]
    · obtain ⟨v, h1, h2⟩ := h.slot j oj sj d hoj hsj (hL.resolve_right hjk) hdj
      exact ⟨v, keep d v (hO.pair k o j oj ho hoj hjk d hdj).1 h1, Rep.stays hE.stays _ _ h2⟩
  · obtain ⟨v, h1, h2⟩ := h.old d t ht fun j oj hoj hL => hno j oj hoj (.inl hL)
    exact ⟨v, keep d v (hno k o ho (.inr rfl)) h1, Rep.stays hE.stays _ _ h2⟩
  · cases o.dst <;> simp [Act.put, h.sz]
  · cases o.dst <;> exact h.df.evo hE
theorem JdC.step [Dr] (hT : TabOk P tab) (hO : OrdB l m) (hF : RunCF P tab im l m E Hm r Fs ws)
    {L : Nat → Prop} {a : Act} {M : Mp} {j : Nat} (h : JdC n kb (l.take m) r Fs ws E X0 j L a M) (hc : Closed l L) {k : Nat} {o : Oper} (ho : (l.take m)[k]? = some o) (hk : ¬ L k) (hpre : ∀ e ∈ o.after, Region.binds .any e = true → L e.on) (hd : ∀ d, o.dst = some d → d < n)
    {r0 : Option Nat} {Q : Exit → Act → World → Prop} {K : Act → World → Prop} (hK : ∀ a' M' j', Evo X0 M M' → JdC n kb (l.take m) r Fs ws E X0 j' (fun i => L i ∨ i = k) a' M' → K a' M'.w) : wpOpIn (FW r0) 0 P l.toArray Q k K a M.w := by
  have hr := hF.rl
  have hkl : k < (l.take m).length := (List.getElem?_eq_some_iff.1 ho).1
  have hol : l[k]? = some o := by rw [List.getElem?_take] at ho; split at ho; exact ho; cases ho
  have hkm : k < m := by rw [List.length_take] at hkl; omega
  obtain ⟨s, hs'⟩ : ∃ x, r[k]? = some x := ⟨_, List.getElem?_eq_getElem (by omega)⟩
  obtain ⟨w, hw'⟩ : ∃ x, ws[k]? = some x := ⟨_, List.getElem?_eq_getElem (by rw [hF.wl]; omega)⟩
  obtain ⟨G, G1, hG, hG1, hstp⟩ := hF.st k o s w ho hs' hw'
  have hnb := hF.nb s (List.mem_of_getElem? hs')
  have hrd := fun (d : Nat) (t : T) => h.read hO hr hc ho hk hpre (d := d) (t := t)
  have hop : ∀ x ∈ o.op.operands.toList, ∀ t, (envAt (l.take m) r E k).opd x = some t → Rep M t (a.eval x) := by
    intro x hx t ht
    cases x with
    | tmp d =>
      obtain ⟨u, h1, h2⟩ := hrd d t (by simp only [readsOf, Oper.looksAt, List.mem_append, List.mem_filterMap]; exact .inl ⟨.tmp d, hx, rfl⟩) ht
      have : a.eval (.tmp d) = u := by show a.tmps.getD d undef = u; simp [h1]
      rw [this]; exact h2
    | const v => simp only [Env.opd] at ht; injection ht with ht; subst ht; exact rep_ofV v
    | func f => simp only [Env.opd] at ht; injection ht with ht; subst ht; exact ⟨[], [], rfl, rfl, rfl⟩
    | global g => simp only [Env.opd] at ht; injection ht with ht; subst ht; exact rfl
  unfold wpOpIn
  simp only [List.getElem?_toArray, hol]
  cases w with
  | true =>
    obtain ⟨hg, hwr⟩ := hstp
    have hw : Region.wanted o (yielded l.toArray a.tmps) = true := by simp [Region.wanted, hg]
    rw [hw, if_pos rfl]
    have hij : cntB ws k = j := by
      have h1 : ¬ cntB ws k < j := fun hh => hk ((h.cnt k hw').2 hh)
      refine Nat.le_antisymm (Nat.le_of_not_lt fun hh => ?_) (by omega)
      obtain ⟨k', q1, q2, q3⟩ := cntB_pos hh
      have hL := mask_next hO.back hc hol hpre (hF.ch k k' hkm q1 hw' q2)
      have := (h.cnt k' q2).1 hL
      omega
    obtain ⟨G', hG', hS⟩ := h.sim
    rw [hij] at hG
    rw [hG] at hG'; injection hG' with hG'; subst hG'
    have hg1 := hG1 rfl
    rw [hij] at hg1
    have hcn2 : ∀ k', ws[k']? = some true → ((L k' ∨ k' = k) ↔ cntB ws k' < j + 1) := fun k2' hw2 => by
      rw [h.cnt k2' hw2]
      constructor
      · rintro (q1 | rfl) <;> omega
      · intro hh
        by_cases h2 : cntB ws k2' < j
        · exact .inl h2
        · refine .inr ?_
          rcases Nat.lt_trichotomy k2' k with q1 | q1 | q1
          · have := cntB_mono q1 hw2; omega
          · exact q1
          · have := cntB_mono q1 hw'; omega
    rcases hwr with ⟨f, args, ats, g, us', vs', ts, hoc, hf, hts, hgo, hcall⟩ | ⟨x, y, t1, t2, ta, tb, hoc, hx, hy, happ⟩ | ⟨p, hm, rfl⟩ | ⟨t0, x, y, ta, tx, hoc, hx, hy, hst, hun⟩
    · have hnd : ∀ c, o.op ≠ .defer c := by rw [hoc]; simp
      refine wpIn_of hnd ?_
      obtain ⟨dst, op, ty, pos, after, guard⟩ := o
      simp only at hoc hop hd
      subst hoc
      obtain ⟨us, vs, e1, r1, r2⟩ := hop f (by simp [Op.operands, Call.operands]) _ hf
      have r3 := optL_ok (M := M) (ρ' := a.eval) _ _ (fun x hx t ht => hop x (by simp [Op.operands, Call.operands]; exact .inr (by simpa using hx)) t ht) hts
      have hrr : (execOp a.eval ⟨dst, .call ⟨.value f, args, ats⟩, ty, pos, after, guard⟩).run P M.w = .ok (.enter g (us ++ args.toList.map a.eval ++ vs).toArray) M.w := by
        simp only [execOp, resolve, Sem.run_bind, e1, Deferred.ofValue, Sem.run_pure, Result.andThen_ok, invoke]
        rw [run_goFunc _ _ _ hgo, ← map_arr]
        simp
      rw [hrr]
      refine ⟨fun hh => (by cases hh), callsIn_wide.2 ((hcall X0 M _ hS (RepL.append (RepL.append r1 r3) r2)).mono ?_)⟩
      rintro e w' ⟨u, t, H', M', rfl, rfl, ⟨rfl, rfl⟩, k2, k3, k4⟩
      exact hK _ M' (j + 1) k2 (h.next hO ho hs' hk hd k2 ⟨_, hg1, k3⟩ k4 hcn2)
    · have hnd : ∀ c, o.op ≠ .defer c := by rw [hoc]; simp
      refine wpIn_of hnd ?_
      obtain ⟨dst, op, ty, pos, after, guard⟩ := o
      simp only at hoc hop hd
      subst hoc
      have r1 := hop x (by simp [Op.operands, Call.operands]) _ hx
      have r2 := hop y (by simp [Op.operands, Call.operands]) _ hy
      obtain ⟨u, M', k1, k2, k3, k4⟩ := mAppend_ok (ty := ty) hT hS r1 r2 happ
      have hrr : (execOp a.eval ⟨dst, .call ⟨.builtin .append, #[x, y], #[t1, t2]⟩, ty, pos, after, guard⟩).run P M.w = .ok (.value u) M'.w := by simp [execOp, resolve, invoke, builtin, k1]
      rw [hrr]
      exact hK _ M' (j + 1) k2 (h.next hO ho hs' hk hd k2 ⟨_, hg1, k3⟩ k4 hcn2)
    · have hnd : ∀ c, o.op ≠ .defer c := opM_op hm
      refine wpIn_of hnd ?_
      have hmk := opM_ok (M := M) (ρ' := a.eval) hT hS.look hop hm
      obtain ⟨e, cs⟩ := p
      obtain ⟨u, a', h1, h2, h3⟩ := hmk
      rw [h1]
      obtain ⟨Ev, S, hsh⟩ := hS.new (nx := G.length) (fun hh => Nat.lt_irrefl _ hh) (w := { M.w with heap := M.w.heap.push (.cells a' e) }) rfl rfl ⟨rfl, fun _ => Nat.le_refl _⟩ rfl (fun j _ hj => by simp at hj) h2
      exact hK _ (newM M G.length _) (j + 1) Ev (h.next hO ho hs' hk hd Ev ⟨_, hg1, SimH.push S⟩ (h3 _ (if_pos rfl) hsh) hcn2)
    · have hnd : ∀ c, o.op ≠ .defer c := by rw [hoc]; simp
      refine wpIn_of hnd ?_
      obtain ⟨dst, op, ty, pos, after, guard⟩ := o
      simp only at hoc hop hd
      subst hoc
      have r1 := hop x (by simp [Op.operands]) _ hx
      have r2 := hop y (by simp [Op.operands]) _ hy
      obtain ⟨M', k1, k2, k3⟩ := mStore_ok hT hS r1 r2 hst
      have hrr : (execOp a.eval ⟨dst, .store t0 x y, ty, pos, after, guard⟩).run P M.w = .ok .skip M'.w := by simp [execOp, k1]
      rw [hrr]
      exact hK _ M' (j + 1) k2 (h.next hO ho hs' hk hd k2 ⟨_, hg1, k3⟩ (u := undef) (by rw [hun]; rfl) hcn2)
  | false =>
    have hcn : ∀ k', ws[k']? = some true → ((L k' ∨ k' = k) ↔ cntB ws k' < j) := fun k' hwk => by
      rw [← h.cnt k' hwk]
      exact ⟨fun hh => hh.resolve_right (fun e => by subst e; rw [hw'] at hwk; injection hwk with hwk; cases hwk), Or.inl⟩
    obtain ⟨G', hG', hS⟩ := h.sim
    have hsn := hF.sn j G' hG'
    have hlook : LookAt M (lookH Hm) := by
      intro b B O cells hb hcc
      refine Sim.look hS b B O cells hb ?_
      rw [lookH_c] at hcc
      rw [cells_some, ← hsn.2 b (by rw [hcc]; simp)]; exact hcc
    have hgd : ∀ g want d b, o.guard = some (g, want) → (l.toArray[g]?).bind (·.dst) = some d → (envAt (l.take m) r E k).get d = some (.v (.bool b)) → yielded l.toArray a.tmps g = some b := by
      intro g want d b hg hgd hb
      have hgd' : (l[g]?.bind fun x => x.dst) = some d := by simpa using hgd
      obtain ⟨u, h1, h2⟩ := hrd d _ (by simp [readsOf, Oper.looksAt, hg]; exact .inr hgd') hb
      obtain rfl := h2
      simp [yielded, hgd', h1]
    rcases hstp with (⟨h1, h2, g, want, d, x, hg, hgdst, hb, hne⟩ | ⟨hg, hst⟩) | ⟨hg, f, args, ats, g, us', vs', ts, hoc, hf, hts, hcall⟩
    · have hw : Region.wanted o (yielded l.toArray a.tmps) = false := by
        have hgd' : (l[g]?.bind fun x => x.dst) = some d := by simpa using hgdst
        obtain ⟨u, q1, q2⟩ := hrd d _ (by simp [readsOf, Oper.looksAt, hg]; exact .inr hgd') hb
        obtain rfl := q2
        have hy : yielded l.toArray a.tmps g = match u with | .bool b => some b | _ => none := by simp only [yielded, List.getElem?_toArray, hgd', Option.bind_some, q1]; cases u <;> rfl
        simp only [Region.wanted, hg, hy]
        cases u <;> first | rfl | skip
        rename_i b
        cases b <;> cases want <;> first | rfl | exact absurd rfl hne
      rw [hw]
      exact ⟨fun _ _ => trivial, hK _ M j (Evo.refl _ _) (h.next hO ho hs' hk hd (Evo.refl _ _) ⟨G', hG', hS⟩ (by rw [h1]; rfl) hcn)⟩
    · have hw : Region.wanted o (yielded l.toArray a.tmps) = true := by
        rcases hg with hg | ⟨g, want, d, hg, hgdst, hb⟩
        · simp [Region.wanted, hg]
        · have hy := hgd g want d want hg hgdst hb
          simp [Region.wanted, hg, hy]
      rw [hw, if_pos rfl]
      have hnd : ∀ c, o.op ≠ .defer c := by
        rcases hst with ⟨t, nb, hm, -⟩ | ⟨f, args, ats, g, fs, cs, ts, hoc, -⟩
        · exact opM_op hm
        · rw [hoc]; simp
      refine wpIn_of hnd ?_
      rcases hst with ⟨t, nb, hm, hst⟩ | ⟨f, args, ats, g, fs, cs, ts, hoc, hf, hts, hcall, -⟩
      · have hmk' := opM_ok (M := M) (ρ' := a.eval) hT hlook hop hm
        rcases hst with ⟨hst, hnb'⟩ | ⟨⟨e, cs⟩, rfl, hst, -⟩
        case inr =>
          obtain ⟨u, w', q1, q2, q3, q4⟩ := imm_new hS hmk' (opM_new hm)
          rw [q1]
          exact hK _ _ j q2 (h.next hO ho hs' hk hd q2 ⟨G', hG', hS.world q2 q3⟩ (by rw [hst]; exact q4) hcn)
        subst hst
        cases nb with
        | none =>
          obtain ⟨u, h1, h2⟩ := hmk'
          rw [h1]
          exact hK _ M j (Evo.refl _ _) (h.next hO ho hs' hk hd (Evo.refl _ _) ⟨G', hG', hS⟩ h2 hcn)
        | some p => rw [hnb'] at hnb; cases hnb
      · obtain ⟨dst, op, ty, pos, after, guard⟩ := o
        simp only at hoc hop hd
        subst hoc
        obtain ⟨us, vs, e1, r1, r2⟩ := hop f (by simp [Op.operands, Call.operands]) _ hf
        have r3 := optL_ok (M := M) (ρ' := a.eval) _ _ (fun x hx t ht => hop x (by simp [Op.operands, Call.operands]; exact .inr (by simpa using hx)) t ht) hts
        have hrr : (execOp a.eval ⟨dst, .call ⟨.value f, args, ats⟩, ty, pos, after, guard⟩).run P M.w = .ok (.enter g (us ++ args.toList.map a.eval ++ vs).toArray) M.w := by
          simp only [execOp, resolve, Sem.run_bind, e1, Deferred.ofValue, Sem.run_pure, Result.andThen_ok, invoke]
          rw [run_goFunc _ _ _ hcall.2.2.1, ← map_arr]
          simp
        rw [hrr]
        refine ⟨fun hh => (by cases hh), callsIn_wide.2 ((hcall.run X0 M _ hS.bnd hS.glo (RepL.append (RepL.append r1 r3) r2)).mono ?_)⟩
        rintro e w' ⟨u, rfl, k1, k2, k3⟩
        exact hK _ _ j k1 (h.next hO ho hs' hk hd k1 ⟨G', hG', hS.world k1 k3⟩ k2 hcn)
    · have hw : Region.wanted o (yielded l.toArray a.tmps) = true := by simp [Region.wanted, hg]
      rw [hw, if_pos rfl]
      have hnd : ∀ c, o.op ≠ .defer c := by rw [hoc]; simp
      refine wpIn_of hnd ?_
      obtain ⟨dst, op, ty, pos, after, guard⟩ := o
      simp only at hoc hop hd
      subst hoc
      obtain ⟨us, vs, e1, r1, r2⟩ := hop f (by simp [Op.operands, Call.operands]) _ hf
      have r3 := optL_ok (M := M) (ρ' := a.eval) _ _ (fun x hx t ht => hop x (by simp [Op.operands, Call.operands]; exact .inr (by simpa using hx)) t ht) hts
      have hcl := hcall G' hsn
      have hrr : (execOp a.eval ⟨dst, .call ⟨.value f, args, ats⟩, ty, pos, after, guard⟩).run P M.w = .ok (.enter g (us ++ args.toList.map a.eval ++ vs).toArray) M.w := by
        simp only [execOp, resolve, Sem.run_bind, e1, Deferred.ofValue, Sem.run_pure, Result.andThen_ok, invoke]
        rw [run_goFunc _ _ _ hcl.1, ← map_arr]
        simp
      rw [hrr]
      refine ⟨fun hh => (by cases hh), callsIn_wide.2 ((hcl.2 X0 M _ hS (RepL.append (RepL.append r1 r3) r2)).mono ?_)⟩
      rintro e w' ⟨u, t, H', M', rfl, rfl, ⟨rfl, rfl⟩, k2, k3, k4⟩
      exact hK _ M' j k2 (h.next hO ho hs' hk hd k2 ⟨_, hG', k3⟩ k4 hcn)
end
end
section
open Go.RowKit
section
variable {z : Bool} {P : Program} {tab : Tab} {n m kb lb : Nat} {l : List Oper} {E : Env} {H Hm : Hp} {Fs : List Hp} {r : List Stp} {ws : List Bool} {X0 : Nat → Prop} {M0 : Mp} {im : List Nat}
theorem JdC.fin [Dr] {L : Nat → Prop} {a : Act} {M : Mp} {j : Nat} {F' : Hp} (hO : OrdB l m) (hF : RunCF P tab im l m E Hm r Fs ws) (hlast : Fs[cntB ws ws.length]? = some F') (hlen : Fs.length = cntB ws ws.length + 1) (h : JdC n kb (l.take m) r Fs ws E X0 j L a M) (hL : ∀ k, k < (l.take m).length → L k) : St n kb (envAt (l.take m) r E (l.take m).length) F' X0 a M := by
  have hr := hF.rl
  have hdis : ∀ (i j : Nat) (oi oj : Oper), (l.take m)[i]? = some oi → (l.take m)[j]? = some oj → i ≠ j → ∀ d, oi.dst = some d → oj.dst ≠ some d := fun i j oi oj hi hj hij d hdi => (hO.pair j oj i oi hj hi hij d hdi).1
  obtain ⟨G, hG, hS⟩ := h.sim
  have hjl := (List.getElem?_eq_some_iff.1 hG).1
  have hje : j = cntB ws ws.length := by
    refine Nat.le_antisymm (by omega) (Nat.le_of_not_lt fun hh => ?_)
    obtain ⟨k', q1, q2, q3⟩ := cntB_pos hh
    have := (h.cnt k' q2).1 (hL k' (by rw [← hF.wl]; exact q1))
    omega
  rw [hje, hlast] at hG
  injection hG with hG; subst hG
  refine ⟨fun d t ht => ?_, h.sz, h.df, h.ge, hS⟩
  obtain ⟨g1, g2⟩ := env_get (E := E) (d := d) hr (Nat.le_refl _) hdis
  by_cases hw : ∃ j oj, j < (l.take m).length ∧ (l.take m)[j]? = some oj ∧ oj.dst = some d
  · obtain ⟨j, oj, hj, hoj, hdj⟩ := hw
    have hs : r[j]? = some r[j] := List.getElem?_eq_getElem (by omega)
    rw [g1 j oj _ hj hoj hs hdj] at ht
    injection ht with ht; subst ht
    exact h.slot j oj _ d hoj hs (hL j hj) hdj
  · rw [g2 fun j oj hj hoj hdj => hw ⟨j, oj, hj, hoj, hdj⟩] at ht
    exact h.old d t ht fun j oj hoj _ hdj => hw ⟨j, oj, (List.getElem?_eq_some_iff.1 hoj).1, hoj, hdj⟩
theorem draw_anyC [Dr] (hT : TabOk P tab) (hO : OrdB l m) (hd : dstB n l = true) (hF : RunCF P tab im l m E Hm r Fs ws) {F' : Hp} (hlast : Fs[cntB ws ws.length]? = some F') (hlen : Fs.length = cntB ws ws.length + 1)
    {r0 : Option Nat} {Q : Exit → Act → World → Prop} (hQ : ∀ a M, Evo X0 M0 M → St n kb (envAt (l.take m) r E (l.take m).length) F' X0 a M → wpListIn (FW r0) 0 P l.toArray Q (l.drop m) a M.w) :
    ∀ (fuel : Nat) (listed : Array Bool) (a : Act) (M : Mp) (j : Nat), leftB l listed ≤ fuel → listed.size = l.length → Closed l (lsd listed) → (∀ k, m ≤ k → ¬ lsd listed k) → Evo X0 M0 M → JdC n kb (l.take m) r Fs ws E X0 j (lsd listed) a M → wpAnyIn (FW r0) 0 P .any l.toArray Q fuel listed a M.w := by
  have hml : (l.take m).length = m := by rw [List.length_take]; have := hO.le; omega
  intro fuel
  have fin : ∀ (fuel : Nat) (listed : Array Bool) (a : Act) (M : Mp) (j : Nat), leftB l listed ≤ fuel → listed.size = l.length → (∀ k, m ≤ k → ¬ lsd listed k) → (∀ k, k < m → lsd listed k) → Evo X0 M0 M → JdC n kb (l.take m) r Fs ws E X0 j (lsd listed) a M → wpAnyIn (FW r0) 0 P .any l.toArray Q fuel listed a M.w := by
    intro fuel listed a M j hf hsz hno hall hE hJ
    refine tail_any hO fuel listed m a M.w ?_ hsz (Nat.le_refl _) hO.le (fun k => ⟨fun h => ?_, hall k⟩) (hQ a M hE (hJ.fin hO hF hlast hlen fun k hk => hall k (by omega)))
    · have h1 : leftB l listed = l.length - m := by
        unfold leftB
        have e : List.range l.length = List.range m ++ (List.range (l.length - m)).map (m + ·) := by
          rw [← List.range_add, show m + (l.length - m) = l.length from by have := hO.le; omega]
        rw [e, List.countP_append]
        have e1 : (List.range m).countP (fun k => !listed.getD k false) = 0 := by
          rw [List.countP_eq_zero]
          intro k hk
          have := hall k (List.mem_range.1 hk)
          unfold lsd at this
          simpa using this
        have e2 : ((List.range (l.length - m)).map (m + ·)).countP (fun k => !listed.getD k false) = l.length - m := by
          rw [List.countP_eq_length.2]
          · simp
          · intro k hk
            rw [List.mem_map] at hk
            obtain ⟨q, -, rfl⟩ := hk
            have := hno (m + q) (by omega)
            unfold lsd at this
            simpa using this
        omega
      omega
    · exact Nat.lt_of_not_le fun hk => hno k hk h
  induction fuel with
  | zero =>
    intro listed a M j hf hsz hc hno hE hJ
    by_cases hall : ∀ k, k < m → lsd listed k
    · exact fin 0 listed a M j hf hsz hno hall hE hJ
    · exfalso
      have h0 : leftB l listed = 0 := by omega
      unfold leftB at h0
      rw [List.countP_eq_zero] at h0
      apply hall
      intro k hk
      have := h0 k (List.mem_range.2 (by have := hO.le; omega))
      unfold lsd
      simpa using this
  | succ fuel ih =>
    intro listed a M j hf hsz hc hno hE hJ
    by_cases hall : ∀ k, k < m → lsd listed k
    · exact fin _ listed a M j hf hsz hno hall hE hJ
    · have hnext : ∃ i o, i < m ∧ l[i]? = some o ∧ ¬ lsd listed i ∧ ∀ e ∈ o.after, Region.binds .any e = true → lsd listed e.on := by
        have hex : ∃ k, k < m ∧ ¬ lsd listed k := by
          apply Classical.byContradiction
          intro h
          exact hall fun k hk => Classical.byContradiction fun hn => h ⟨k, hk, hn⟩
        obtain ⟨i, ⟨h1, h2⟩, hmin⟩ := least_nat hex
        have hile : i < l.length := by have := hO.le; omega
        have ho : l[i]? = some l[i] := List.getElem?_eq_getElem hile
        refine ⟨i, _, h1, ho, h2, fun e he hb => ?_⟩
        have hlt := back_at l 0 i _ hO.back ho e he hb
        exact Classical.byContradiction fun hn => by have := hmin e.on ⟨by omega, hn⟩; omega
      refine ⟨fun hr0 => ?_, fun i hi => ?_⟩
      · obtain ⟨i, o, h1, h2, h3, h4⟩ := hnext
        have := ready_of hsz h2 h3 h4
        rw [hr0] at this; cases this
      · obtain ⟨o, ho, hn, hp⟩ := ready_facts hsz hi
        have hil := (List.getElem?_eq_some_iff.1 ho).1
        have him : i < m := by
          refine Nat.lt_of_not_le fun hmi => ?_
          apply hall
          intro k hk
          exact mask_next hO.back hc ho hp (hO.full i hmi hil k (by omega))
        have hop : (l.take m)[i]? = some o := by rw [List.getElem?_take, if_pos him]; exact ho
        have hdo : ∀ d, o.dst = some d → d < n := fun d hdd => by
          unfold dstB at hd
          rw [List.all_eq_true] at hd
          have := hd o (List.mem_of_getElem? ho)
          rw [hdd] at this; simpa using this
        refine JdC.step hT hO hF hJ hc hop hn hp hdo fun a' M' j' hE' hJ' => ?_
        have hiff : ∀ k, lsd (listed.setIfInBounds i true) k ↔ lsd listed k ∨ k = i := lsd_set (by omega)
        have hfun : lsd (listed.setIfInBounds i true) = fun k => lsd listed k ∨ k = i := funext fun k => propext (hiff k)
        refine ih _ a' M' j' ?_ (by simpa using hsz) (fun k ok hok hk e he hb => ?_) (fun k hk h => ?_) (hE.trans hE') (by rw [hfun]; exact hJ')
        · have := leftB_set hsz hil hn; omega
        · rw [hiff] at hk ⊢
          rcases hk with hk | rfl
          · exact .inl (hc k ok hok hk e he hb)
          · rw [ho] at hok; injection hok with hok; subst hok; exact .inl (hp e he hb)
        · rcases (hiff k).1 h with h | h
          · exact hno k hk h
          · omega
def cchB (l : List Oper) (m : Nat) (ws : List Bool) : Bool := (List.range m).all fun k => (List.range k).all fun j => !(ws.getD k false && ws.getD j false) || ((masks l []).getD k 0).testBit j
theorem cch_at {ws : List Bool} (h : cchB l m ws = true) {k j : Nat} (hk : k < m) (hj : j < k) (h1 : ws[k]? = some true) (h2 : ws[j]? = some true) : ((masks l []).getD k 0).testBit j = true := by
  unfold cchB at h
  rw [List.all_eq_true] at h
  have h := h k (List.mem_range.2 hk)
  rw [List.all_eq_true] at h
  have h := h j (List.mem_range.2 hj)
  simpa [List.getD_eq_getElem?_getD, h1, h2] using h
theorem VC.drawC [Dr] {id : Nat} {QT : Exit → Env → Hp → Prop} (hT : TabOk P tab) (im : List Nat) (m : Nat) (hm : P.follows .mixedOrders = true) (hB : drawB n m l = true) (wd : List Bool) (hch : cchB l m wd = true) (hsn : seenL Hm H)
    (h : ∃ r fs E' F', RunC P tab im l.toArray Hm (l.take m) E H r fs wd E' F' ∧ vcSeq P tab im (l.map (·.dst)) (l.drop m) E' F' (QT .normal)) : VC z P n lb (.region id l.toArray true) QT E H := by
  intro X0 M a r0 kb hz hs
  obtain ⟨hO, hd⟩ := ord_of hB
  obtain ⟨r, fs, E', F', hrun, hk⟩ := h
  obtain ⟨h1, h2, h3, h4, h5, h6, h7, h8⟩ := runC_at hrun hsn
  have hF : RunCF P tab im l m E Hm r (H :: fs) wd := ⟨h1, h2, h7, h5, h8, fun k j hk hj q1 q2 => cch_at hch hk hj q1 q2⟩
  refine wpIn_region_any hm ?_
  let M1 : Mp := ⟨M.β, M.X, { M.w with drawn := M.w.drawn + 1 }⟩
  have hE1 : Evo X0 M M1 := ⟨fun _ _ h => h, fun _ _ h => h, fun _ _ _ => rfl, fun _ _ h => h, rfl, ⟨rfl, fun _ => Nat.le_succ _⟩, rfl, Nat.le_refl _⟩
  have hs1 : St n kb E H X0 a M1 := ⟨fun d t ht => by obtain ⟨u, q1, q2⟩ := hs.tm d t ht; exact ⟨u, q1, Rep.stays hE1.stays _ _ q2⟩, hs.sz, hs.df.evo hE1, hs.ge, hs.sim.world hE1 fun _ _ => rfl⟩
  have hno : ∀ k, ¬ lsd (Array.replicate l.toArray.size false) k := fun k hk => by
    unfold lsd at hk
    by_cases hlt : k < l.length
    · simp [hlt] at hk
    · simp [hlt] at hk
  have := draw_anyC (r0 := r0) (X0 := X0) (M0 := M) (Q := Lift n kb lb X0 M QT) hT hO hd hF (by rw [← h3]; exact h6) (by rw [← h3]; rfl) (fun a' M' hE' hs' => by
    rw [← h4] at hs'
    refine vcSeq_ok (im := im) hT _ ?_ hs' (fun E2 H2 a2 M2 k1 k2 k3 => ⟨E2, H2, M2, k1, rfl, (hE'.trans k2).toK lb, k3⟩) hk
    unfold dstB at hd ⊢
    rw [List.all_eq_true] at hd ⊢
    exact fun o ho => hd o (List.mem_of_mem_drop ho)) l.toArray.size (Array.replicate l.toArray.size false) a M1 0 (Nat.le_trans List.countP_le_length (by simp)) (by simp) (fun k o _ hk => absurd hk (hno k)) (fun k _ => hno k) hE1
    ⟨⟨H, rfl, hs1.sim⟩, fun k o s d _ _ hk => absurd hk (hno k), fun d t ht _ => hs1.tm d t ht, hs1.sz, hs1.df, hs1.ge, fun k _ => ⟨fun hk => absurd hk (hno k), fun hh => by omega⟩⟩
  exact this
end
def VD [Dr] (P : Program) (tab : Tab) (im : List Nat) (ops : Array Oper) (Hm : Hp) (l : List Oper) (wd : List Bool) (E : Env) (F : Hp) (K : Env → Hp → Prop) : Prop :=
  ∀ E2, Sub E E2 → ∃ r fs E' F', RunC P tab im ops Hm l E2 F r fs wd E' F' ∧ ∃ E1, Sub E1 E' ∧ K E1 F'
section
variable {z : Bool} {P : Program} {tab : Tab} {n lb : Nat} {im : List Nat} {ops : Array Oper} {l : List Oper} {E : Env} {Hm F : Hp} {K : Env → Hp → Prop} {wd : List Bool}
theorem VD.nil [Dr] (h : K E F) : VD P tab im ops Hm [] [] E F K := fun E2 he => ⟨[], [], E2, F, .nil _ _, E, he, h⟩
theorem VD.meek [Dr] {d : Nat} {op : Op} {ty : TypeId} {pos : String} {after : Array Edge} {t : T} (h : opM tab (lookH Hm) Hm.length E.opd op = some (t, none)) (k : VD P tab im ops Hm l wd ((d, t) :: E) F K) : VD P tab im ops Hm (⟨some d, op, ty, pos, after, none⟩ :: l) (false :: wd) E F K := fun E2 he => by
  obtain ⟨r, fs, E', F', h1, h2⟩ := k _ (he.put d t)
  exact ⟨⟨t, none⟩ :: r, fs, E', F', .one (s := ⟨t, none⟩) (.inr ⟨.inl rfl, .inl ⟨t, none, opM_mono (fun x s hx => he.opd hx) h, .inl ⟨rfl, rfl⟩⟩⟩) rfl h1, h2⟩
theorem VD.call [Dr] {d : Nat} {ty : TypeId} {pos : String} {after : Array Edge} {f : Operand} {args : Array Operand} {ats : Array TypeId} {g : FuncId} {us vs ts : List T} {t : T} {F1 : Hp} (hf : E.opd f = some (.clo g us vs)) (ha : optL E.opd args.toList = some ts)
    (hc : CallT P g (us ++ ts ++ vs) F (fun u H' => u = t ∧ H' = F1)) (hs : seenL Hm F1) (k : VD P tab im ops Hm l wd ((d, t) :: E) F1 K) : VD P tab im ops Hm (⟨some d, .call ⟨.value f, args, ats⟩, ty, pos, after, none⟩ :: l) (true :: wd) E F K := fun E2 he => by
  obtain ⟨r, fs, E', F', h1, h2⟩ := k _ (he.put d t)
  exact ⟨⟨t, none⟩ :: r, F1 :: fs, E', F', .call (t := t) rfl (.inl ⟨f, args, ats, g, us, vs, ts, rfl, he.opd hf, optL_mono (fun x s hx => he.opd hx) _ _ ha, hc⟩) hs h1, h2⟩
theorem VD.app [Dr] {d : Nat} {ty : TypeId} {pos : String} {after : Array Edge} {x y : Operand} {t1 t2 : TypeId} {ta tb t : T} {F1 : Hp} (hx : E.opd x = some ta) (hy : E.opd y = some tb) (ha : mAppend tab F t1 t2 ta tb = some (t, F1)) (hs : seenL Hm F1) (k : VD P tab im ops Hm l wd ((d, t) :: E) F1 K) :
    VD P tab im ops Hm (⟨some d, .call ⟨.builtin .append, #[x, y], #[t1, t2]⟩, ty, pos, after, none⟩ :: l) (true :: wd) E F K := fun E2 he => by
  obtain ⟨r, fs, E', F', h1, h2⟩ := k _ (he.put d t)
  exact ⟨⟨t, none⟩ :: r, F1 :: fs, E', F', .call (t := t) rfl (.inr (.inl ⟨x, y, t1, t2, ta, tb, rfl, he.opd hx, he.opd hy, ha⟩)) hs h1, h2⟩
theorem VD.new [Dr] {d : Nat} {op : Op} {ty : TypeId} {pos : String} {after : Array Edge} {t : T} {p : Nat × List T} {F1 : Hp} (h : opM tab (lookH F) F.length E.opd op = some (t, some p)) (he1 : F ++ [.c p.2] = F1) (hs : seenL Hm F1) (k : VD P tab im ops Hm l wd ((d, t) :: E) F1 K) : VD P tab im ops Hm (⟨some d, op, ty, pos, after, none⟩ :: l) (true :: wd) E F K := fun E2 he => by
  obtain ⟨r, fs, E', F', h1, h2⟩ := k _ (he.put d t)
  exact ⟨⟨t, none⟩ :: r, F1 :: fs, E', F', .call (t := t) rfl (.inr (.inr (.inl ⟨p, opM_mono (fun x s hx => he.opd hx) h, he1.symm⟩))) hs h1, h2⟩
theorem VD.sto [Dr] {t0 : TypeId} {a x : Operand} {ty : TypeId} {pos : String} {after : Array Edge} {b o : Nat} {i : TyI} {cs : List T} {tx : T} {F1 : Hp} (hT : tab t0 = some i) (ha : E.opd a = some (.ptr b o)) (hx : E.opd x = some tx) (hc : lookH F b = some cs)
    (h1 : (flat tx).length = i.sz) (h2 : o + i.sz ≤ cs.length) (h3 : (flat tx).all cellB = true) (he1 : setH F b (.c (putL cs o (flat tx))) = F1) (hs : seenL Hm F1) (k : VD P tab im ops Hm l wd E F1 K) :
    VD P tab im ops Hm (⟨none, .store t0 a x, ty, pos, after, none⟩ :: l) (true :: wd) E F K := fun E2 he => by
  obtain ⟨r, fs, E', F', g1, g2⟩ := k _ he
  refine ⟨⟨.v undef, none⟩ :: r, F1 :: fs, E', F', .call (t := .v undef) rfl (.inr (.inr (.inr ⟨t0, a, x, _, tx, rfl, he.opd ha, he.opd hx, ?_, rfl⟩))) hs g1, g2⟩
  simp only [mStore, hT, hc]
  rw [if_pos ⟨h1, h2, h3⟩, he1]
theorem VD.look [Dr] {d : Nat} {ty : TypeId} {pos : String} {after : Array Edge} {f : Operand} {args : Array Operand} {ats : Array TypeId} {g : FuncId} {us vs ts : List T} {t : T} (hf : E.opd f = some (.clo g us vs)) (ha : optL E.opd args.toList = some ts)
    (hc : ∀ G, seenL Hm G → CallT P g (us ++ ts ++ vs) G (fun u H' => u = t ∧ H' = G)) (k : VD P tab im ops Hm l wd ((d, t) :: E) F K) : VD P tab im ops Hm (⟨some d, .call ⟨.value f, args, ats⟩, ty, pos, after, none⟩ :: l) (false :: wd) E F K := fun E2 he => by
  obtain ⟨r, fs, E', F', h1, h2⟩ := k _ (he.put d t)
  exact ⟨⟨t, none⟩ :: r, fs, E', F', .look (t := t) rfl ⟨f, args, ats, g, us, vs, ts, rfl, he.opd hf, optL_mono (fun x s hx => he.opd hx) _ _ ha, hc⟩ h1, h2⟩
theorem VD.newI [Dr] {d : Nat} {op : Op} {ty : TypeId} {pos : String} {after : Array Edge} {t : T} {p : Nat × List T} (h : opM tab (lookH Hm) Hm.length E.opd op = some (t, some p)) (k : VD P tab im ops Hm l wd ((d, immT t p.2) :: E) F K) : VD P tab im ops Hm (⟨some d, op, ty, pos, after, none⟩ :: l) (false :: wd) E F K := fun E2 he => by
  obtain ⟨r, fs, E', F', h1, h2⟩ := k _ (he.put d _)
  exact ⟨⟨immT t p.2, none⟩ :: r, fs, E', F', .one (s := ⟨immT t p.2, none⟩) (.inr ⟨.inl rfl, .inl ⟨t, some p, opM_mono (fun x s hx => he.opd hx) h, .inr ⟨p, rfl, rfl, rfl⟩⟩⟩) rfl h1, h2⟩
theorem VD.callP [Dr] {d : Nat} {ty : TypeId} {pos : String} {after : Array Edge} {f : Operand} {args : Array Operand} {ats : Array TypeId} {g : FuncId} {us vs ts : List T} {t : T} (hf : E.opd f = some (.clo g us vs)) (ha : optL E.opd args.toList = some ts)
    (hc : CallP P g (us ++ ts ++ vs) t) (k : VD P tab im ops Hm l wd ((d, t) :: E) F K) : VD P tab im ops Hm (⟨some d, .call ⟨.value f, args, ats⟩, ty, pos, after, none⟩ :: l) (false :: wd) E F K := fun E2 he => by
  obtain ⟨r, fs, E', F', h1, h2⟩ := k _ (he.put d t)
  exact ⟨⟨t, none⟩ :: r, fs, E', F', .one (s := ⟨t, none⟩) (.inr ⟨.inl rfl, .inr ⟨f, args, ats, g, us, vs, ts, rfl, he.opd hf, optL_mono (fun x s hx => he.opd hx) _ _ ha, hc, rfl⟩⟩) rfl h1, h2⟩
end
section
variable {z : Bool} {P : Program} {tab : Tab} {n lb : Nat} {E : Env} {H : Hp} {QT : Exit → Env → Hp → Prop}
theorem VC.drwCN [Dr] {id : Nat} {l l2 : List Oper} (hT : TabOk P tab) (im : List Nat) (l1 : List Oper) (Hm : Hp) (wd : List Bool) (hl : l = l1 ++ l2) (hm : P.follows .mixedOrders = true) (hB : drawB n l1.length l = true) (hch : cchB l l1.length wd = true) (hsn : seenL Hm H) (h : VD P tab im l.toArray Hm l1 wd E H fun E H => VX false P tab im (l.map (·.dst)) l2 E H (QT .normal)) : VC z P n lb (.region id l.toArray true) QT E H := by
  have e1 : l.take l1.length = l1 := by rw [hl, List.take_left]
  have e2 : l.drop l1.length = l2 := by rw [hl, List.drop_left]
  obtain ⟨r, fs, E', F', h1, E1, h3, h4⟩ := h E (Sub.refl E)
  refine VC.eqv (VC.drawC hT im l1.length hm hB wd hch hsn ⟨r, fs, E', F', by rw [e1]; exact h1, ?_⟩)
  rw [e2]
  exact h4 E' h3
end
theorem seen_nil {F : Hp} : seenL [] F := ⟨Nat.zero_le _, fun b hb => absurd (by simp [blkH]) hb⟩
theorem seen_same {x : Blk} {a b : Hp} (h : seenL a b) : seenL (x :: a) (x :: b) := ⟨by have := h.1; simp; omega, fun c hc => by cases c with | zero => rfl | succ c => exact h.2 c hc⟩
theorem seen_dead {x : Blk} {a b : Hp} (h : seenL a b) : seenL (.d :: a) (x :: b) := ⟨by have := h.1; simp; omega, fun c hc => by cases c with | zero => exact absurd rfl hc | succ c => exact h.2 c hc⟩
end
section
theorem wrap_u8 (n : Int) : IntKind.u8.wrap n = n % 256 := by simp [IntKind.wrap, IntKind.bits, IntKind.signed]
end
section
open Go.RowKit
set_option maxRecDepth 10000
end
section
open Go.RowKit
set_option maxRecDepth 10000
theorem in_place {w h : Nat} {x y : Int} (hw : w ≤ 128) (hh : h ≤ 128) (hx : 0 ≤ x) (hx2 : x < w) (hy : 0 ≤ y) (hy2 : y < h) : 0 ≤ y * (w : Int) ∧ y * (w : Int) ≤ 16384 ∧ y * (w : Int) + x < ((w * h : Nat) : Int) ∧ w * h ≤ 16384 := by
  have a1 : 0 ≤ y * (w : Int) := Int.mul_nonneg hy (by omega)
  have a2 : (y + 1) * (w : Int) ≤ (h : Int) * (w : Int) := Int.mul_le_mul_of_nonneg_right (by omega) (by omega)
  have a3 : ((w * h : Nat) : Int) = (h : Int) * (w : Int) := by rw [Int.natCast_mul, Int.mul_comm]
  have a4 : (y + 1) * (w : Int) = y * w + w := by rw [Int.add_mul, Int.one_mul]
  have a5 : w * h ≤ 128 * 128 := Nat.mul_le_mul hw hh
  omega
abbrev plC (w h : Nat) (px : List Int) (nw : T) : List T := [I64 w, I64 h, .islc (encL cU px) px.length none, nw, I64 w, I64 h, .islc (encL cU px) px.length none]
abbrev nwT (b n : Nat) : T := .slc b 0 n 1 none
theorem was_t [Dr] (w h : Nat) (px : List Int) (nw : T) (H : Hp) (x y : Int) (hw : w ≤ 128) (hh : h ≤ 128) (hl : px.length = w * h) (hx : 0 ≤ x) (hx2 : x < w) (hy : 0 ≤ y) (hy2 : y < h) :
    CallT Try.prog 36 [.iptr (plC w h px nw) 0, I64 x, I64 y] H (fun t H' => t = U8 px[(y * w + x).toNat]! ∧ H' = H) := by
  have hin := in_place hw hh hx hx2 hy hy2
  refine CallT.intro tab_ok Try.func36 rfl (by kernel_rfl) (Nat.le_of_ble_eq_true rfl) ?_
  refine VC.reg tab_ok [] rfl ?_
  refine VX.meek rfl ?_
  refine VX.nil ?_
  refine VC.drw tab_ok [] [_, _, _, _, _, _, _, _, _, _, _, _, _, _, _] rfl (by kernel_rfl) (by kernel_rfl) ?_
  iterate 3 refine VX.meek rfl ?_
  first | refine VX.meek rfl ?_ | refine VX.loadI rfl rfl au_l ?_ | refine VX.loadP rfl rfl rfl au_l ?_
  iterate 4 refine VX.meek rfl ?_
  first | refine VX.meek rfl ?_ | refine VX.loadI rfl rfl au_l ?_ | refine VX.loadP rfl rfl rfl au_l ?_
  first | refine VX.mul rfl rfl (by omega) ?_ | refine VX.meek rfl ?_
  refine VX.meek rfl ?_
  first | refine VX.add rfl rfl (by omega) ?_ | refine VX.meek rfl ?_
  first | refine VX.idxI rfl rfl rfl rfl rfl rfl (by omega) ?_ | refine VX.idxO0 rfl rfl rfl rfl rfl rfl rfl (by omega) ?_ | refine VX.idxO0 rfl rfl rfl rfl rfl rfl au_z (by omega) ?_ | refine VX.idxO rfl rfl rfl rfl rfl rfl rfl (by omega) ?_ | refine VX.idxI rfl rfl rfl rfl rfl au_z (by omega) ?_ | refine VX.idxO rfl rfl rfl rfl rfl rfl au_z (by omega) ?_ | refine VX.meek rfl ?_
  first | refine VX.meek rfl ?_ | refine VX.loadI rfl rfl au_l ?_ | refine VX.loadP rfl rfl rfl au_l ?_
  refine VX.meek rfl ?_
  iterate 2 refine VX.nil ?_
  refine VC.ret ?_
  exact ⟨trivial, _, rfl, rfl, rfl⟩
theorem now_p [Dr] (w h : Nat) (px s : List Int) (x y : Int) (hw : w ≤ 128) (hh : h ≤ 128) (hl : px.length = w * h) (hs : s.length = w * h) (hx : 0 ≤ x) (hx2 : x < w) (hy : 0 ≤ y) (hy2 : y < h) :
    CallP Try.prog 35 [.iptr (plC w h px (.islc (encL cU s) s.length none)) 0, I64 x, I64 y] (U8 s[(y * w + x).toNat]!) := by
  have hin := in_place hw hh hx hx2 hy hy2
  refine CallP.intro2 au_pu au_pu ?_
  refine CallT.intro tab_ok Try.func35 rfl (by kernel_rfl) (Nat.le_of_ble_eq_true rfl) ?_
  refine VC.reg tab_ok [] rfl ?_
  refine VX.meek rfl ?_
  refine VX.nil ?_
  refine VC.drw tab_ok [] [_, _, _, _, _, _, _, _, _, _, _, _, _, _, _] rfl (by kernel_rfl) (by kernel_rfl) ?_
  iterate 3 refine VX.meek rfl ?_
  first | refine VX.meek rfl ?_ | refine VX.loadI rfl rfl au_l ?_ | refine VX.loadP rfl rfl rfl au_l ?_
  iterate 4 refine VX.meek rfl ?_
  first | refine VX.meek rfl ?_ | refine VX.loadI rfl rfl au_l ?_ | refine VX.loadP rfl rfl rfl au_l ?_
  first | refine VX.mul rfl rfl (by omega) ?_ | refine VX.meek rfl ?_
  refine VX.meek rfl ?_
  first | refine VX.add rfl rfl (by omega) ?_ | refine VX.meek rfl ?_
  first | refine VX.idxI rfl rfl rfl rfl rfl rfl (by omega) ?_ | refine VX.idxO0 rfl rfl rfl rfl rfl rfl rfl (by omega) ?_ | refine VX.idxO0 rfl rfl rfl rfl rfl rfl au_z (by omega) ?_ | refine VX.idxO rfl rfl rfl rfl rfl rfl rfl (by omega) ?_ | refine VX.idxI rfl rfl rfl rfl rfl au_z (by omega) ?_ | refine VX.idxO rfl rfl rfl rfl rfl rfl au_z (by omega) ?_ | refine VX.meek rfl ?_
  first | refine VX.meek rfl ?_ | refine VX.loadI rfl rfl au_l ?_ | refine VX.loadP rfl rfl rfl au_l ?_
  refine VX.meek rfl ?_
  iterate 2 refine VX.nil ?_
  refine VC.ret ?_
  exact ⟨trivial, _, rfl, Cv.eq (by first | rfl | (simp [*]; done)) rfl⟩
def inB' (w h : Nat) (x y : Int) : Bool := decide (0 ≤ x) && decide (x < w) && decide (0 ≤ y) && decide (y < h)
theorem set_t [Dr] (w h : Nat) (px s : List Int) (x y v : Int) (hw : w ≤ 128) (hh : h ≤ 128) (hl : px.length = w * h) (hs : s.length = w * h) (hx : 0 ≤ x) (hx2 : x < w) (hy : 0 ≤ y) (hy2 : y < h) :
    CallT Try.prog 16 [.iptr (plC w h px (nwT 0 px.length)) 0, I64 x, I64 y, U8 v] [.c (encL cU s)] (fun t H' => t = .tup [] ∧ H' = [.c (encL cU (s.set (y * w + x).toNat v))]) := by
  have hin := in_place hw hh hx hx2 hy hy2
  have hpt : (encL cU s).length = s.length := by rw [encL_len, cU_sz, Nat.mul_one]
  have hput := encL_put cU s (y * w + x).toNat 0 s[(y * w + x).toNat]! v [U8 v] (getE (by omega)) (Nat.le_refl _) rfl
  rw [cU_sz, Nat.mul_one, Nat.add_zero] at hput
  refine CallT.intro tab_ok Try.func16 rfl (by kernel_rfl) (Nat.le_of_ble_eq_true rfl) ?_
  refine VC.drwN tab_ok [] [_, _, _, _, _, _, _, _, _, _, _, _, _, _] rfl (by kernel_rfl) (by kernel_rfl) ?_
  iterate 3 refine VX.meek rfl ?_
  first | refine VX.meek rfl ?_ | refine VX.loadI rfl rfl au_l ?_ | refine VX.loadP rfl rfl rfl au_l ?_
  iterate 4 refine VX.meek rfl ?_
  first | refine VX.meek rfl ?_ | refine VX.loadI rfl rfl au_l ?_ | refine VX.loadP rfl rfl rfl au_l ?_
  first | refine VX.mul rfl rfl (by omega) ?_ | refine VX.meek rfl ?_
  refine VX.meek rfl ?_
  first | refine VX.add rfl rfl (by omega) ?_ | refine VX.meek rfl ?_
  refine VX.meek rfl ?_
  first | refine VX.idxI rfl rfl rfl rfl rfl rfl (by omega) ?_ | refine VX.idxO0 rfl rfl rfl rfl rfl rfl rfl (by omega) ?_ | refine VX.idxO0 rfl rfl rfl rfl rfl rfl au_z (by omega) ?_ | refine VX.idxO rfl rfl rfl rfl rfl rfl rfl (by omega) ?_ | refine VX.idxI rfl rfl rfl rfl rfl au_z (by omega) ?_ | refine VX.idxO rfl rfl rfl rfl rfl rfl au_z (by omega) ?_ | refine VX.meek rfl ?_
  refine VX.nil ?_
  refine VX.store rfl rfl rfl rfl rfl au_sR rfl ?_
  refine VX.nil ?_
  exact ⟨trivial, _, rfl, rfl, by show [Blk.c (putL (encL cU s) ((y * (w : Int) + x).toNat * 1) [U8 v])] = _; rw [Nat.mul_one, hput]⟩
end
section
open Go.RowKit
set_option maxRecDepth 10000
theorem src_isl {α : Type} (c : Cd α) {tab : Tab} {look : Look} {t e sz : Nat} {i : TyI} {l : List α} {q : Option Nat} (hT : tab t = some i) (hk : i.k = .sl e) (hz : sz = c.sz) : srcCells tab look t sz (.islc (encL c l) l.length q) = some (encL c l, l.length) := by
  subst hz
  unfold srcCells
  rw [hT]
  simp only [hk]
  rw [if_pos (by rw [encL_len]; exact Nat.le_refl _), List.take_of_length_le (by rw [encL_len]; exact Nat.le_refl _)]
structure Pic where
  w : Nat
  h : Nat
  px : List Int
abbrev picT (g : Pic) : T := .agg [I64 g.w, I64 g.h, .islc (encL cU g.px) g.px.length none]
def Pic.Ok (g : Pic) : Prop := g.w ≤ 128 ∧ g.h ≤ 128 ∧ g.px.length = g.w * g.h ∧ ∀ p ∈ g.px, 0 ≤ p ∧ p < 256
def sideB (n : Int) : Bool := decide (1 ≤ n) && decide (n ≤ 128)
theorem side_p [Dr] (n : Int) : CallP Try.prog 19 [I64 n] (BL (sideB n)) := by
  refine CallP.intro2 au_pu au_pu ?_
  refine CallT.intro tab_ok Try.func19 rfl (by kernel_rfl) (Nat.le_of_ble_eq_true rfl) ?_
  refine VC.reg tab_ok [] rfl ?_
  refine VX.meek rfl ?_
  refine VX.nil ?_
  refine VC.reg tab_ok [] rfl ?_
  iterate 3 refine VX.meek rfl ?_
  refine' VX.merge (d := 8) [_, _, _] rfl ?_ rfl ?_
  rotate_left
  · refine VX.guard rfl rfl (fun hb1_2 => ?_) (fun hb1_2 => ?_)
    · have ghb1_2 := hb1_2
      try simp only [au_std, Bool.not_true, Bool.not_false] at ghb1_2
      refine VX.meek rfl ?_
      refine VX.guardT rfl rfl hb1_2 ?_
      refine VX.meek rfl ?_
      refine VX.pickA rfl (fun _ => rfl) ?_
      exact VX.nil ⟨rfl, rfl⟩
    · refine VX.guardF rfl rfl hb1_2 ?_
      exact VX.pickA rfl (fun h => absurd (h.symm.trans hb1_2) (by decide)) (VX.nil ⟨rfl, rfl⟩)
  refine VX.meek rfl ?_
  refine VX.nil ?_
  refine VC.ret ?_
  exact ⟨trivial, _, rfl, Cv.eq (by first | rfl | (simp [*]; done)) rfl⟩
theorem size_p [Dr] (g : Pic) : CallP Try.prog 11 [picT g] (.tup [I64 g.w, I64 g.h]) := by
  refine CallP.intro2 au_pu au_pu ?_
  refine CallT.intro tab_ok Try.func11 rfl (by kernel_rfl) (Nat.le_of_ble_eq_true rfl) ?_
  refine VC.reg tab_ok [1] rfl ?_
  refine VX.newI rfl rfl ?_
  iterate 2 refine VX.meek rfl ?_
  refine VX.nil ?_
  refine VC.drw tab_ok [] [_, _, _, _, _, _] rfl (by kernel_rfl) (by kernel_rfl) ?_
  refine VX.meek rfl ?_
  first | refine VX.meek rfl ?_ | refine VX.loadI rfl rfl au_l ?_ | refine VX.loadP rfl rfl rfl au_l ?_
  refine VX.meek rfl ?_
  first | refine VX.meek rfl ?_ | refine VX.loadI rfl rfl au_l ?_ | refine VX.loadP rfl rfl rfl au_l ?_
  iterate 2 refine VX.meek rfl ?_
  iterate 2 refine VX.nil ?_
  refine VC.ret ?_
  exact ⟨trivial, _, rfl, Cv.eq (by first | rfl | (simp [*]; done)) rfl⟩
def Pic.hasB (g : Pic) (x y : Int) : Bool := decide (0 ≤ x) && decide (x < g.w) && decide (0 ≤ y) && decide (y < g.h)
theorem ghas_p [Dr] (g : Pic) (x y : Int) : CallP Try.prog 20 [picT g, I64 x, I64 y] (BL (g.hasB x y)) := by
  refine CallP.intro2 au_pu au_pu ?_
  refine CallT.intro tab_ok Try.func20 rfl (by kernel_rfl) (Nat.le_of_ble_eq_true rfl) ?_
  refine VC.reg tab_ok [3] rfl ?_
  refine VX.newI rfl rfl ?_
  refine VX.meek rfl ?_
  refine VX.nil ?_
  refine VC.reg tab_ok [] rfl ?_
  iterate 3 refine VX.meek rfl ?_
  refine' VX.merge (d := 14) [_, _, _, _, _] rfl ?_ rfl ?_
  rotate_left
  · refine VX.guard rfl rfl (fun hb1_2 => ?_) (fun hb1_2 => ?_)
    · have ghb1_2 := hb1_2
      try simp only [au_std, Bool.not_true, Bool.not_false] at ghb1_2
      refine VX.meek rfl ?_
      refine VX.guardT rfl rfl hb1_2 ?_
      refine VX.meek rfl ?_
      refine VX.guardT rfl rfl hb1_2 ?_
      first | refine VX.meek rfl ?_ | refine VX.loadI rfl rfl au_l ?_ | refine VX.loadP rfl rfl rfl au_l ?_
      refine VX.guardT rfl rfl hb1_2 ?_
      refine VX.meek rfl ?_
      refine VX.pickA rfl (fun _ => rfl) ?_
      exact VX.nil ⟨rfl, rfl⟩
    · refine VX.guardF rfl rfl hb1_2 ?_
      iterate 2 refine VX.guardF rfl rfl hb1_2 ?_
      exact VX.pickA rfl (fun h => absurd (h.symm.trans hb1_2) (by decide)) (VX.nil ⟨rfl, rfl⟩)
  refine VX.meek rfl ?_
  refine' VX.merge (d := 18) [_, _, _] rfl ?_ rfl ?_
  rotate_left
  · refine VX.guard rfl rfl (fun hb1_8 => ?_) (fun hb1_8 => ?_)
    · have ghb1_8 := hb1_8
      try simp only [au_std, Bool.not_true, Bool.not_false] at ghb1_8
      refine VX.meek rfl ?_
      refine VX.guardT rfl rfl hb1_8 ?_
      refine VX.meek rfl ?_
      refine VX.pickA rfl (fun _ => rfl) ?_
      exact VX.nil ⟨rfl, rfl⟩
    · refine VX.guardF rfl rfl hb1_8 ?_
      exact VX.pickA rfl (fun h => absurd (h.symm.trans hb1_8) (by decide)) (VX.nil ⟨rfl, rfl⟩)
  refine VX.meek rfl ?_
  refine' VX.merge (d := 24) [_, _, _, _, _] rfl ?_ rfl ?_
  rotate_left
  · refine VX.guard rfl rfl (fun hb1_12 => ?_) (fun hb1_12 => ?_)
    · have ghb1_12 := hb1_12
      try simp only [au_std, Bool.not_true, Bool.not_false] at ghb1_12
      refine VX.meek rfl ?_
      refine VX.guardT rfl rfl hb1_12 ?_
      refine VX.meek rfl ?_
      refine VX.guardT rfl rfl hb1_12 ?_
      first | refine VX.meek rfl ?_ | refine VX.loadI rfl rfl au_l ?_ | refine VX.loadP rfl rfl rfl au_l ?_
      refine VX.guardT rfl rfl hb1_12 ?_
      refine VX.meek rfl ?_
      refine VX.pickA rfl (fun _ => rfl) ?_
      exact VX.nil ⟨rfl, rfl⟩
    · refine VX.guardF rfl rfl hb1_12 ?_
      iterate 2 refine VX.guardF rfl rfl hb1_12 ?_
      exact VX.pickA rfl (fun h => absurd (h.symm.trans hb1_12) (by decide)) (VX.nil ⟨rfl, rfl⟩)
  refine VX.meek rfl ?_
  refine VX.nil ?_
  refine VC.ret ?_
  exact ⟨trivial, _, rfl, Cv.eq rfl rfl⟩
def Pic.at (g : Pic) (x y : Int) : Int := if g.hasB x y = true then g.px[(y * g.w + x).toNat]! else 0
theorem pic_in {g : Pic} (hg : g.Ok) {x y : Int} (h : g.hasB x y = true) : 0 ≤ x ∧ x < g.w ∧ 0 ≤ y ∧ y < g.h ∧ 0 ≤ y * g.w ∧ y * g.w ≤ 16384 ∧ y * g.w + x < g.px.length := by
  unfold Pic.hasB at h
  simp only [Bool.and_eq_true, decide_eq_true_eq] at h
  obtain ⟨h1, h2, h3, h4⟩ := hg
  obtain ⟨⟨⟨k1, k2⟩, k3⟩, k4⟩ := h
  have a1 : 0 ≤ y * (g.w : Int) := Int.mul_nonneg k3 (by omega)
  have a2 : (y + 1) * (g.w : Int) ≤ (g.h : Int) * (g.w : Int) := Int.mul_le_mul_of_nonneg_right (by omega) (by omega)
  have a3 : ((g.w * g.h : Nat) : Int) = (g.h : Int) * (g.w : Int) := by rw [Int.natCast_mul, Int.mul_comm]
  have a4 : (y + 1) * (g.w : Int) = y * g.w + g.w := by rw [Int.add_mul, Int.one_mul]
  have a5 : g.w * g.h ≤ 128 * 128 := Nat.mul_le_mul h1 h2
  rw [h3]
  omega
theorem at_p [Dr] (g : Pic) (hg : g.Ok) (x y : Int) : CallP Try.prog 18 [picT g, I64 x, I64 y] (U8 (g.at x y)) := by
  refine CallP.intro2 au_pu au_pu ?_
  refine CallT.intro tab_ok Try.func18 rfl (by kernel_rfl) (Nat.le_of_ble_eq_true rfl) ?_
  refine VC.reg tab_ok [3] rfl ?_
  refine VX.newI rfl rfl ?_
  refine VX.meek rfl ?_
  refine VX.nil ?_
  refine VC.seq ?_
  refine VC.reg tab_ok [] rfl ?_
  first | refine VX.meek rfl ?_ | refine VX.loadI rfl rfl au_l ?_ | refine VX.loadP rfl rfl rfl au_l ?_
  iterate 2 refine VX.meek rfl ?_
  refine VX.callP0 rfl rfl rfl (ghas_p g x y) ?_
  refine VX.meek rfl ?_
  refine VX.nil ?_
  refine VC.cond rfl (fun hc0 => ?_) (fun hc0 => ?_)
  · have hb : g.hasB x y = false := (by simpa using hc0); have hres : g.at x y = 0 := (by unfold Pic.at; rw [if_neg (by rw [hb]; simp)])
    refine VC.reg tab_ok [] rfl ?_
    refine VX.meek rfl ?_
    refine VX.nil ?_
    refine VC.ret ?_
    exact ⟨trivial, _, rfl, Cv.eq (by first | (rw [hres]; done) | (rw [hres]; rfl)) rfl⟩
  · have hb : g.hasB x y = true := (by simpa using hc0); have hin := pic_in hg hb; have hg1 := hg.1; have hres : g.at x y = g.px[(y * g.w + x).toNat]! := if_pos hb
    refine VC.skip ?_
    refine VC.reg tab_ok [] rfl ?_
    refine VX.meek rfl ?_
    first | refine VX.meek rfl ?_ | refine VX.loadI rfl rfl au_l ?_ | refine VX.loadP rfl rfl rfl au_l ?_
    iterate 2 refine VX.meek rfl ?_
    first | refine VX.meek rfl ?_ | refine VX.loadI rfl rfl au_l ?_ | refine VX.loadP rfl rfl rfl au_l ?_
    first | refine VX.mul rfl rfl (by omega) ?_ | refine VX.meek rfl ?_
    refine VX.meek rfl ?_
    first | refine VX.add rfl rfl (by omega) ?_ | refine VX.meek rfl ?_
    first | refine VX.idxI rfl rfl rfl rfl rfl rfl (by omega) ?_ | refine VX.idxO0 rfl rfl rfl rfl rfl rfl rfl (by omega) ?_ | refine VX.idxO0 rfl rfl rfl rfl rfl rfl au_z (by omega) ?_ | refine VX.idxO rfl rfl rfl rfl rfl rfl rfl (by omega) ?_ | refine VX.idxI rfl rfl rfl rfl rfl au_z (by omega) ?_ | refine VX.idxO rfl rfl rfl rfl rfl rfl au_z (by omega) ?_ | refine VX.meek rfl ?_
    first | refine VX.meek rfl ?_ | refine VX.loadI rfl rfl au_l ?_ | refine VX.loadP rfl rfl rfl au_l ?_
    refine VX.meek rfl ?_
    refine VX.nil ?_
    refine VC.ret ?_
    exact ⟨trivial, _, rfl, Cv.eq (by first | (rw [hres]; done) | (rw [hres]; rfl)) rfl⟩
end
section
open Go.RowKit
set_option maxRecDepth 10000
theorem new_no [Dr] (w h p : Int) (hs : sideB w = false ∨ sideB h = false) : CallP Try.prog 9 [I64 w, I64 h, U8 p] (.tup [picT ⟨0, 0, []⟩, I64 17]) := by
  refine CallP.intro2 au_pu au_pu ?_
  refine CallT.intro tab_ok Try.func9 rfl (by kernel_rfl) (Nat.le_of_ble_eq_true rfl) ?_
  refine VC.reg tab_ok [] rfl ?_
  refine VX.new rfl rfl ?_
  refine VX.meek rfl ?_
  refine VX.nil ?_
  refine VC.seq ?_
  refine VC.reg tab_ok [] rfl ?_
  refine VX.meek rfl ?_
  refine VX.callP0 rfl rfl rfl (side_p w) ?_
  iterate 2 refine VX.meek rfl ?_
  refine' VX.merge (d := 17) [_, _, _, _] rfl ?_ rfl ?_
  rotate_left
  · refine VX.guard rfl rfl (fun hb1_3 => ?_) (fun hb1_3 => ?_)
    · have ghb1_3 := hb1_3
      try simp only [au_std, Bool.not_true, Bool.not_false] at ghb1_3
      refine VX.meek rfl ?_
      refine VX.guardT rfl rfl hb1_3 ?_
      refine VX.callP0 rfl rfl rfl (side_p h) ?_
      refine VX.guardT rfl rfl hb1_3 ?_
      refine VX.meek rfl ?_
      refine VX.pickO rfl (fun _ => rfl) ?_
      exact VX.nil ⟨rfl, rfl⟩
    · refine VX.guardF rfl rfl hb1_3 ?_
      refine VX.guardF rfl rfl hb1_3 ?_
      exact VX.pickO rfl (fun h => absurd (h.symm.trans hb1_3) (by decide)) (VX.nil ⟨rfl, rfl⟩)
  refine VX.nil ?_
  refine VC.cond rfl (fun hc0 => ?_) (fun hc0 => ?_)
  · (try simp only [au_std] at hc0)
    refine VC.reg tab_ok [] rfl ?_
    refine VX.meek rfl ?_
    refine VX.store rfl rfl rfl rfl rfl au_sR rfl ?_
    refine VX.meek rfl ?_
    refine VX.nil ?_
    refine VC.ret ?_
    exact ⟨trivial, _, rfl, Cv.tup (CvL.cons (Cv.agg (CvL.cons (Cv.pure rfl) (CvL.cons (Cv.pure rfl) (CvL.cons (Cv.nil _ (.inl rfl)) CvL.nil)))) (CvL.cons (Cv.pure rfl) CvL.nil))⟩
  · exact absurd hc0 (by rcases hs with h | h <;> simp [h])
theorem rep_set {n i : Nat} {p : Int} (h : i < n) : (List.replicate i p ++ List.replicate (n - i) 0).set i p = List.replicate (i + 1) p ++ List.replicate (n - (i + 1)) 0 := by
  rw [List.set_append_right _ _ (by simp), List.length_replicate, Nat.sub_self, show n - i = (n - (i + 1)) + 1 from by omega, List.replicate_succ, List.set_cons_zero, List.replicate_succ', List.append_assoc]
  rfl
theorem zerosU (n : Nat) : zeros n [U8 0] = encL cU (List.replicate n 0) := by
  induction n with
  | zero => rfl
  | succ n ih => simp only [zeros, encL, List.replicate_succ, List.flatMap_cons] at ih ⊢; rw [ih]; rfl
theorem rep_at {n i : Nat} {p : Int} (h : i < n) : (List.replicate i p ++ List.replicate (n - i) 0)[i]? = some 0 := by
  rw [List.getElem?_append_right (by simp), List.length_replicate, Nat.sub_self, List.getElem?_replicate, if_pos (by omega)]
theorem new_yes [Dr] (w h : Nat) (p : Int) (hw : 1 ≤ w ∧ w ≤ 128) (hh : 1 ≤ h ∧ h ≤ 128) : CallP Try.prog 9 [I64 w, I64 h, U8 p] (.tup [picT ⟨w, h, List.replicate (w * h) p⟩, I64 0]) := by
  have hs1 : sideB w = true := by unfold sideB; simp; omega
  have hs2 : sideB h = true := by unfold sideB; simp; omega
  have hwh : w * h ≤ 128 * 128 := Nat.mul_le_mul hw.2 hh.2
  have hmul : (w : Int) * (h : Int) = ((w * h : Nat) : Int) := (Int.natCast_mul w h).symm
  refine CallP.intro2 au_pu au_pu ?_
  refine CallT.intro tab_ok Try.func9 rfl (by kernel_rfl) (Nat.le_of_ble_eq_true rfl) ?_
  refine VC.reg tab_ok [] rfl ?_
  refine VX.new rfl rfl ?_
  refine VX.meek rfl ?_
  refine VX.nil ?_
  refine VC.seq ?_
  refine VC.reg tab_ok [] rfl ?_
  refine VX.meek rfl ?_
  refine VX.callP0 rfl rfl rfl (side_p w) ?_
  iterate 2 refine VX.meek rfl ?_
  refine' VX.merge (d := 17) [_, _, _, _] rfl ?_ rfl ?_
  rotate_left
  · refine VX.guard rfl rfl (fun hb1_3 => ?_) (fun hb1_3 => ?_)
    · have ghb1_3 := hb1_3
      try simp only [au_std, Bool.not_true, Bool.not_false] at ghb1_3
      refine VX.meek rfl ?_
      refine VX.guardT rfl rfl hb1_3 ?_
      refine VX.callP0 rfl rfl rfl (side_p h) ?_
      refine VX.guardT rfl rfl hb1_3 ?_
      refine VX.meek rfl ?_
      refine VX.pickO rfl (fun _ => rfl) ?_
      exact VX.nil ⟨rfl, rfl⟩
    · refine VX.guardF rfl rfl hb1_3 ?_
      refine VX.guardF rfl rfl hb1_3 ?_
      exact VX.pickO rfl (fun h => absurd (h.symm.trans hb1_3) (by decide)) (VX.nil ⟨rfl, rfl⟩)
  refine VX.nil ?_
  refine VC.cond rfl (fun hc0 => ?_) (fun hc0 => ?_)
  · exact absurd hc0 (by rw [hs1, hs2]; simp)
  · (try simp only [au_std] at hc0)
    refine VC.skip ?_
    refine VC.reg tab_ok [] rfl ?_
    iterate 2 refine VX.meek rfl ?_
    first | refine VX.mul rfl rfl (by omega) ?_ | refine VX.meek rfl ?_
    refine VX.mkS (a := w * h) (b := w * h) rfl rfl rfl rfl rfl rfl hmul hmul (by omega) (by omega) (by dsimp only; omega) ?_
    refine VX.meek rfl ?_
    refine VX.nil ?_
    refine VC.seq ?_
    refine VC.reg tab_ok [] rfl ?_
    iterate 3 refine VX.meek rfl ?_
    refine VX.nil ?_
    refine VC.block ?_
    refine VC.loopS (σ := Nat) (fun i => w * h - i) (fun i => i ≤ w * h) (fun i => [(25, I64 i)]) (fun i => [.c [I64 0, I64 0, NIL], .c (encL cU (List.replicate i p ++ List.replicate (w * h - i) 0))]) [0, 1, 2, 6, 8, 24] rfl (0) ?_ ?_ ?_
    · refine ⟨[some 0, some 1], rfl, by first | trivial | decide, by first | rfl | (simp only [noO, Bool.and_true, Bool.and_eq_true]; first | assumption | (refine ⟨?_, ?_⟩ <;> assumption)) | (simp only [noO, *, Bool.and_true, Bool.true_and, Bool.and_self]; done), ?_, ?_⟩ <;> (repeat' first | exact trivial | exact CvB_n | exact CvB_d | exact CvB_o rfl | refine CvE_app ?_ ?_ | refine CvE_cons rfl ?_ ?_ | refine CvH_cons ?_ ?_ | refine CvB_c rfl ?_ | fail) <;> first | exact au_v | (exact CvL.eq (zerosU _) (encL_pure cU _))
    · (try dsimp only); omega
    rintro i hi
    refine VC.reg tab_ok [] rfl ?_
    refine VX.meek rfl ?_
    refine VX.nil ?_
    refine VC.seq ?_
    refine VC.cond rfl (fun hc1 => ?_) (fun hc1 => ?_)
    · (try simp only [au_std] at hc1); have hil : i < w * h := (by omega)
      refine VC.skip ?_
      refine VC.seq ?_
      refine VC.block ?_
      refine VC.reg tab_ok [] rfl ?_
      iterate 2 refine VX.meek rfl ?_
      refine VX.nil ?_
      refine VC.regN tab_ok [] rfl ?_
      iterate 3 refine VX.meek rfl ?_
      first | refine VX.idxI rfl rfl rfl rfl rfl rfl (by omega) ?_ | refine VX.idxO0 rfl rfl rfl rfl rfl rfl rfl (by omega) ?_ | refine VX.idxO0 rfl rfl rfl rfl rfl rfl au_z (by omega) ?_ | refine VX.idxO rfl rfl rfl rfl rfl rfl rfl (by omega) ?_ | refine VX.idxI rfl rfl rfl rfl rfl au_z (by omega) ?_ | refine VX.idxO rfl rfl rfl rfl rfl rfl au_z (by omega) ?_ | refine VX.meek rfl ?_
      refine VX.store rfl rfl rfl rfl rfl au_sR rfl ?_
      refine VX.nil ?_
      refine VC.regN tab_ok [] rfl ?_
      first | refine VX.add rfl rfl (by omega) ?_ | refine VX.meek rfl ?_
      refine VX.meek rfl ?_
      refine VX.nil ?_
      refine ⟨i + 1, by (try dsimp only); omega, ?_, (by refine ⟨[some 0, some 1], rfl, by first | trivial | decide, by first | rfl | (simp only [noO, Bool.and_true, Bool.and_eq_true]; first | assumption | (refine ⟨?_, ?_⟩ <;> assumption)) | (simp only [noO, *, Bool.and_true, Bool.true_and, Bool.and_self]; done), ?_, ?_⟩ <;> (repeat' first | exact trivial | exact CvB_n | exact CvB_d | exact CvB_o rfl | refine CvE_app ?_ ?_ | refine CvE_cons rfl ?_ ?_ | refine CvH_cons ?_ ?_ | refine CvB_c rfl ?_ | fail) <;> first | exact au_v | (first | exact CvL.pure rfl | (rw [← rep_set hil]; exact CvL.eq (encL_put cU _ i 0 0 p [U8 p] (rep_at hil) (Nat.le_refl _) rfl) (encL_pure cU _))))⟩
      (try dsimp only); omega
    · (try simp only [au_std] at hc1); obtain rfl : i = w * h := (by omega); rw [Nat.sub_self, List.replicate_zero, List.append_nil]
      refine VC.exit ?_
      refine VC.reg tab_ok [] rfl ?_
      iterate 4 refine VX.meek rfl ?_
      refine VX.store rfl rfl rfl rfl rfl au_sR rfl ?_
      refine VX.meek rfl ?_
      refine VX.nil ?_
      refine VC.ret ?_
      refine ⟨trivial, _, rfl, ?_⟩; have e : (List.replicate (w * h) p).length = w * h := List.length_replicate; exact Cv.tup (CvL.cons (Cv.agg (CvL.cons (Cv.pure rfl) (CvL.cons (Cv.pure rfl) (CvL.cons (by rw [show (Pic.mk w h (List.replicate (w * h) p)).px.length = w * h from e]; exact Cv.fslc0 ⟨rfl, by simp⟩ (CvL.pure (encL_pure cU _))) CvL.nil)))) (CvL.cons (Cv.pure rfl) CvL.nil))
theorem putL_whole {cs ys : List T} (h : cs.length = ys.length) : putL cs 0 ys = ys := by
  refine List.ext_getElem? fun i => ?_
  rw [putL_get _ _ _ (by omega)]
  split
  · rw [Nat.sub_zero]
  · rw [List.getElem?_eq_none (by omega), List.getElem?_eq_none (by omega)]
theorem VX.copyO [Dr] {P : Program} {tab : Tab} {im : List Nat} {ds : List (Option Nat)} {l : List Oper} {E : Env} {H : Hp} {K : Env → Hp → Prop} {d : Option Nat} {ty : TypeId} {pos : String} {after : Array Edge} {x y : Operand} {t1 t2 : TypeId} {e b n z : Nat} {i j : TyI} {c : Option Nat} {tb : T} {cs ys : List T} (hT : tab t1 = some i) (hk : i.k = .sl e) (hj : tab e = some j) (hx : E.opd x = some (.slc b 0 n z c)) (hy : E.opd y = some tb)
    (hs : srcCells tab (lookH H) t2 j.sz tb = some (ys, n)) (hc : lookH H b = some cs) (hz : z = j.sz) (h1 : cs.length = n * z) (h2 : n * j.sz = ys.length) (h3 : ys.all cellB = true) (k : VX false P tab im ds l (putC E d (.v (.int .i64 n))) (setH H b (.c ys)) K) : VX false P tab im ds (⟨d, .call ⟨.builtin .copy, #[x, y], #[t1, t2]⟩, ty, pos, after, none⟩ :: l) E H K := by
  refine VX.copy hx hy (r := .v (.int .i64 n)) (H' := setH H b (.c ys)) ?_ k
  subst hz
  simp only [mCopy, hT, hk, hj, hs, hc]
  rw [if_pos ⟨trivial, by omega, h2, h3⟩, Nat.min_self, List.take_of_length_le (by omega), putL_whole (by omega)]
theorem twin_t [Dr] (g : Pic) (hg : g.Ok) : CallT Try.prog 21 [picT g] [] (fun t H' => t = .agg [I64 g.w, I64 g.h, .slc 1 0 g.px.length 1 (some g.px.length)] ∧ H' = [.c [I64 g.w, I64 g.h, .slc 1 0 g.px.length 1 (some g.px.length)], .c (encL cU g.px)]) := by
  have hl : g.px.length ≤ 16384 := by rw [hg.2.2.1]; exact Nat.mul_le_mul hg.1 hg.2.1
  refine CallT.intro tab_ok Try.func21 rfl (by kernel_rfl) (Nat.le_of_ble_eq_true rfl) ?_
  refine VC.reg tab_ok [1] rfl ?_
  refine VX.newI rfl rfl ?_
  refine VX.new rfl rfl ?_
  refine VX.nil ?_
  refine VC.reg tab_ok [] rfl ?_
  refine VX.meek rfl ?_
  first | refine VX.meek rfl ?_ | refine VX.loadI rfl rfl au_l ?_ | refine VX.loadP rfl rfl rfl au_l ?_
  refine VX.meek rfl ?_
  refine VX.mkS (a := g.px.length) (b := g.px.length) rfl rfl rfl rfl rfl rfl rfl rfl (by omega) (by omega) (by dsimp only; omega) ?_
  refine VX.meek rfl ?_
  refine VX.nil ?_
  refine VC.reg tab_ok [] rfl ?_
  iterate 2 refine VX.meek rfl ?_
  first | refine VX.meek rfl ?_ | refine VX.loadI rfl rfl au_l ?_ | refine VX.loadP rfl rfl rfl au_l ?_
  refine VX.copyO rfl rfl rfl rfl rfl (src_isl cU rfl rfl rfl) rfl rfl (by simp [zeros]) (by rw [encL_len]; rfl) (encL_cb cU _) ?_
  refine VX.nil ?_
  refine VC.reg tab_ok [] rfl ?_
  refine VX.meek rfl ?_
  first | refine VX.meek rfl ?_ | refine VX.loadI rfl rfl au_l ?_ | refine VX.loadP rfl rfl rfl au_l ?_
  refine VX.meek rfl ?_
  first | refine VX.meek rfl ?_ | refine VX.loadI rfl rfl au_l ?_ | refine VX.loadP rfl rfl rfl au_l ?_
  iterate 2 refine VX.meek rfl ?_
  refine VX.store rfl rfl rfl rfl rfl au_sR rfl ?_
  refine VX.nil ?_
  refine VC.ret ?_
  exact ⟨trivial, _, rfl, rfl, rfl⟩
def Pic.set (g : Pic) (x y p : Int) : Pic := if g.hasB x y = true then ⟨g.w, g.h, g.px.set (y * g.w + x).toNat p⟩ else g
theorem gset_p [Dr] (g : Pic) (hg : g.Ok) (x y p : Int) : CallP Try.prog 10 [picT g, I64 x, I64 y, U8 p] (picT (g.set x y p)) := by
  refine CallP.intro2 au_pu au_pu ?_
  refine CallT.intro tab_ok Try.func10 rfl (by kernel_rfl) (Nat.le_of_ble_eq_true rfl) ?_
  refine VC.reg tab_ok [4] rfl ?_
  refine VX.newI rfl rfl ?_
  refine VX.new rfl rfl ?_
  refine VX.nil ?_
  refine VC.seq ?_
  refine VC.reg tab_ok [] rfl ?_
  first | refine VX.meek rfl ?_ | refine VX.loadI rfl rfl au_l ?_ | refine VX.loadP rfl rfl rfl au_l ?_
  iterate 2 refine VX.meek rfl ?_
  refine VX.callP0 rfl rfl rfl (ghas_p g x y) ?_
  refine VX.meek rfl ?_
  refine VX.nil ?_
  refine VC.cond rfl (fun hc0 => ?_) (fun hc0 => ?_)
  · have hb : g.hasB x y = false := (by simpa using hc0); have hres : g.set x y p = g := if_neg (by rw [hb]; simp)
    refine VC.reg tab_ok [] rfl ?_
    first | refine VX.meek rfl ?_ | refine VX.loadI rfl rfl au_l ?_ | refine VX.loadP rfl rfl rfl au_l ?_
    refine VX.store rfl rfl rfl rfl rfl au_sR rfl ?_
    refine VX.nil ?_
    refine VC.ret ?_
    rw [hres]; exact ⟨trivial, _, rfl, Cv.agg (CvL.cons (Cv.pure rfl) (CvL.cons (Cv.pure rfl) (CvL.cons (Cv.pure (encL_pure cU _)) CvL.nil)))⟩
  · have hb : g.hasB x y = true := (by simpa using hc0); have hin := pic_in hg hb; have hg1 := hg.1; have hres : g.set x y p = ⟨g.w, g.h, g.px.set (y * g.w + x).toNat p⟩ := if_pos hb
    refine VC.skip ?_
    refine VC.reg tab_ok [] rfl ?_
    first | refine VX.meek rfl ?_ | refine VX.loadI rfl rfl au_l ?_ | refine VX.loadP rfl rfl rfl au_l ?_
    refine VX.callT rfl rfl (CallT.frame (twin_t g hg) [] rfl au_ci au_ci ?_)
    rintro _ _ ⟨rfl, rfl⟩
    refine frK au_co au_co ?_
    refine VX.new rfl rfl ?_
    refine VX.store rfl rfl rfl rfl rfl au_sR rfl ?_
    refine VX.nil ?_
    refine VC.reg tab_ok [] rfl ?_
    refine VX.meek rfl ?_
    first | refine VX.meek rfl ?_ | refine VX.loadI rfl rfl au_l ?_ | refine VX.loadP rfl rfl rfl au_l ?_
    iterate 2 refine VX.meek rfl ?_
    first | refine VX.meek rfl ?_ | refine VX.loadI rfl rfl au_l ?_ | refine VX.loadP rfl rfl rfl au_l ?_
    first | refine VX.mul rfl rfl (by omega) ?_ | refine VX.meek rfl ?_
    refine VX.meek rfl ?_
    first | refine VX.add rfl rfl (by omega) ?_ | refine VX.meek rfl ?_
    refine VX.meek rfl ?_
    first | refine VX.idxI rfl rfl rfl rfl rfl rfl (by omega) ?_ | refine VX.idxO0 rfl rfl rfl rfl rfl rfl rfl (by omega) ?_ | refine VX.idxO0 rfl rfl rfl rfl rfl rfl au_z (by omega) ?_ | refine VX.idxO rfl rfl rfl rfl rfl rfl rfl (by omega) ?_ | refine VX.idxI rfl rfl rfl rfl rfl au_z (by omega) ?_ | refine VX.idxO rfl rfl rfl rfl rfl rfl au_z (by omega) ?_ | refine VX.meek rfl ?_
    refine VX.store rfl rfl rfl rfl rfl au_sR rfl ?_
    refine VX.nil ?_
    refine VC.reg tab_ok [] rfl ?_
    first | refine VX.meek rfl ?_ | refine VX.loadI rfl rfl au_l ?_ | refine VX.loadP rfl rfl rfl au_l ?_
    refine VX.store rfl rfl rfl rfl rfl au_sR rfl ?_
    refine VX.nil ?_
    refine VC.ret ?_
    rw [hres]; refine ⟨trivial, _, rfl, Cv.agg (CvL.cons (Cv.pure rfl) (CvL.cons (Cv.pure rfl) (CvL.cons (by rw [show (Pic.mk g.w g.h (g.px.set (y * g.w + x).toNat p)).px.length = g.px.length from List.length_set]; exact Cv.fslc0 ⟨rfl, by simp⟩ (CvL.eq (encL_put cU _ _ 0 _ p [U8 p] (getE (by omega)) (Nat.le_refl _) rfl) (encL_pure cU _))) CvL.nil)))⟩
end
section
open Go.RowKit
set_option maxRecDepth 10000
end
section
open Go.RowKit
set_option maxRecDepth 10000
def u8L (l : List Int) : List UInt8 := l.map fun n => UInt8.ofNat n.toNat
theorem bytes_enc : ∀ l : List Int, bytesT (encL cU l) = some (u8L l)
  | [] => rfl
  | n :: l => by
    show (match bytesT (encL cU l) with | some r => some (UInt8.ofNat n.toNat :: r) | none => none) = _
    rw [bytes_enc l]; rfl
def pxRow (w : Nat) (px : List Int) (y : Nat) : ByteArray := ⟨(u8L ((px.drop (y * w)).take w)).toArray⟩
theorem app_one {α : Type} (c : Cd α) {l : List α} {tl xs : List T} {a : α} {n z : Nat} (hn : n = l.length) (hx : xs = c.cells a) (hz : z = c.sz) : ((encL c l ++ tl).drop 0).take (n * z) ++ xs = encL c (l ++ [a]) ++ [] := by
  subst hn hx hz
  rw [List.append_nil, List.drop_zero, show l.length * c.sz = (encL c l).length from by rw [encL_len], List.take_left, encL_append]
  simp [encL]
section
variable {q : Bool} {P : Program} {tab : Tab} {im : List Nat} {ds : List (Option Nat)} {l : List Oper} {E : Env} {H Hm F : Hp} {K : Env → Hp → Prop} {d : Nat} {ty : TypeId} {pos : String} {after : Array Edge}
theorem VX.strO [Dr] {t1 t2 e b n : Nat} {x : Operand} {i j r : TyI} {c : Option Nat} {xs : List Int} {tl : List T} (hT : tab t1 = some i) (hk : i.k = .sl e) (hj : tab t2 = some j) (hj2 : j.k = .str) (he : tab e = some r) (hr : r.k = .int .u8) (hx : E.opd x = some (.slc b 0 n 1 c)) (hc : lookH H b = some (encL cU xs ++ tl)) (hn : n = xs.length)
    (k : VX q P tab im ds l ((d, .v (.string ⟨(u8L xs).toArray⟩)) :: E) H K) : VX q P tab im ds (⟨some d, .convert t1 t2 x, ty, pos, after, none⟩ :: l) E H K := by
  refine VX.meek (t := .v (.string ⟨(u8L xs).toArray⟩)) ?_ k
  subst hn
  have e1 : xs.length = (encL cU xs).length := by rw [encL_len, cU_sz, Nat.mul_one]
  simp only [opM, hx, mConv, hT, hj, hk, hj2, he, hr, hc, Nat.zero_add, List.drop_zero]
  rw [if_pos (by rw [List.length_append]; omega), e1, List.take_left, bytes_enc]
theorem VD.idxS [Dr] {ops : Array Oper} {wd : List Bool} {t m : Nat} {x ix : Operand} {i : TyI} {s : ByteArray} {k : IntKind} {z : Int} {b : UInt8} {v : Int} (hT : tab t = some i) (hk : i.k = .str) (hx : E.opd x = some (.v (.string s))) (hi : E.opd ix = some (.v (.int k z))) (hz : z = (m : Int)) (hb : s[m]? = some b) (hv : (b.toNat : Int) = v)
    (kk : VD P tab im ops Hm l wd ((d, U8 v) :: E) F K) : VD P tab im ops Hm (⟨some d, .index t x ix, ty, pos, after, none⟩ :: l) (false :: wd) E F K := by
  subst hz hv
  exact VD.meek (by simp only [opM, hx, hi, mIndex, hT, hk, Int.natCast_nonneg, if_true, Int.toNat_natCast, hb]) kk
theorem VD.appO [Dr] {ops : Array Oper} {wd : List Bool} {x y : Operand} {t1 t2 : TypeId} {b o n z e n2 : Nat} {c : Option Nat} {tyv : T} {i j : TyI} {cs ys : List T} (hT : tab t1 = some i) (hk : i.k = .sl e) (hj : tab e = some j) (hx : E.opd x = some (.slc b o n z c)) (hy : E.opd y = some tyv) (hc : lookH F b = some cs)
    (hs : srcCells tab (lookH F) t2 j.sz tyv = some (ys, n2)) (hz : z = j.sz) (h1 : o + n * z ≤ cs.length) (h2 : (n + n2) * j.by_ ≤ 2 ^ 47) (h3 : n + n2 ≤ 2 ^ 47) (h4 : n2 * j.sz = ys.length) (h5 : ys.all cellB = true) (hsn : seenL Hm (setH F b .d ++ [.c ((cs.drop o).take (n * z) ++ ys)]))
    (k : VD P tab im ops Hm l wd ((d, .slc F.length 0 (n + n2) z none) :: E) (setH F b .d ++ [.c ((cs.drop o).take (n * z) ++ ys)]) K) : VD P tab im ops Hm (⟨some d, .call ⟨.builtin .append, #[x, y], #[t1, t2]⟩, ty, pos, after, none⟩ :: l) (true :: wd) E F K := by
  refine VD.app hx hy ?_ hsn k
  simp only [mAppend, hT, hk, hj, hs, hc]
  rw [if_pos ⟨hz, h1, h2, h3, h4, h5⟩]
end
theorem pxRow_at {w y i : Nat} {px : List Int} (hi : i < w) (hl : y * w + i < px.length) : (pxRow w px y)[i]? = some (UInt8.ofNat px[y * w + i]!.toNat) := by
  have e : (pxRow w px y).data.toList = u8L ((px.drop (y * w)).take w) := rfl
  have h1 : i < (u8L ((px.drop (y * w)).take w)).length := by unfold u8L; rw [List.length_map, List.length_take, List.length_drop]; omega
  have h2 : i < (pxRow w px y).size := h1
  rw [getElem?_pos (pxRow w px y) i h2]
  congr 1
  show (u8L ((px.drop (y * w)).take w))[i]'h1 = _
  refine (List.getElem_map _).trans ?_
  rw [List.getElem_take, List.getElem_drop, getElem!_pos px _ hl]
theorem pxRow_size {w y h : Nat} {px : List Int} (hy : y < h) (hl : px.length = w * h) : (pxRow w px y).size = w := by
  show (u8L ((px.drop (y * w)).take w)).length = w
  unfold u8L
  rw [List.length_map, List.length_take, List.length_drop, hl]
  have h1 : (y + 1) * w ≤ h * w := Nat.mul_le_mul_right w hy
  rw [Nat.add_mul, Nat.one_mul] at h1
  rw [Nat.mul_comm w h]
  omega
theorem row_p [Dr] (w h : Nat) (px : List Int) (y : Nat) (hw : w ≤ 128) (hh : h ≤ 128) (hl : px.length = w * h) (hy : y < h) :
    CallP Try.prog 12 [.agg [I64 w, I64 h, .islc (encL cU px) px.length none], I64 y] (.v (.string (pxRow w px y))) := by
  have h1 : (y + 1) * w ≤ h * w := Nat.mul_le_mul_right w hy
  have h2 : (y + 1) * w = y * w + w := by rw [Nat.add_mul, Nat.one_mul]
  have h3 : h * w ≤ 128 * 128 := Nat.mul_le_mul hh hw
  have h4 : w * h = h * w := Nat.mul_comm w h
  have h5 : y * w = 0 ∨ 0 < w := by rcases Nat.eq_zero_or_pos w with k | k; exact .inl (by rw [k, Nat.mul_zero]); exact .inr k
  have hdl : (px.drop (y * w)).length = px.length - y * w := List.length_drop
  have hm1 : (y : Int) * (w : Int) = ((y * w : Nat) : Int) := (Int.natCast_mul y w).symm
  have hm2 : ((y : Int) + 1) * (w : Int) = (((y + 1) * w : Nat) : Int) := by rw [Int.natCast_mul]; rfl
  generalize hrw : px.drop (y * w) = rw_ at hdl
  have hres : pxRow w px y = ⟨(u8L (rw_.take w)).toArray⟩ := by unfold pxRow; rw [hrw]
  refine CallP.intro2 au_pu au_pu ?_
  refine CallT.intro tab_ok Try.func12 rfl (by kernel_rfl) (Nat.le_of_ble_eq_true rfl) ?_
  refine VC.reg tab_ok [2] rfl ?_
  refine VX.newI rfl rfl ?_
  refine VX.meek rfl ?_
  refine VX.nil ?_
  refine VC.seq ?_
  refine VC.reg tab_ok [] rfl ?_
  iterate 3 refine VX.meek rfl ?_
  refine' VX.merge (d := 15) [_, _, _, _, _] rfl ?_ rfl ?_
  rotate_left
  · refine VX.guard rfl rfl (fun hb1_2 => ?_) (fun hb1_2 => ?_)
    · have ghb1_2 := hb1_2
      try simp only [au_std, Bool.not_true, Bool.not_false] at ghb1_2
      refine VX.meek rfl ?_
      refine VX.guardT rfl rfl hb1_2 ?_
      refine VX.meek rfl ?_
      refine VX.guardT rfl rfl hb1_2 ?_
      first | refine VX.meek rfl ?_ | refine VX.loadI rfl rfl au_l ?_ | refine VX.loadP rfl rfl rfl au_l ?_
      refine VX.guardT rfl rfl hb1_2 ?_
      refine VX.meek rfl ?_
      refine VX.pickO rfl (fun _ => rfl) ?_
      exact VX.nil ⟨rfl, rfl⟩
    · refine VX.guardF rfl rfl hb1_2 ?_
      iterate 2 refine VX.guardF rfl rfl hb1_2 ?_
      exact VX.pickO rfl (fun h => absurd (h.symm.trans hb1_2) (by decide)) (VX.nil ⟨rfl, rfl⟩)
  refine VX.nil ?_
  refine VC.cond rfl (fun hc0 => ?_) (fun hc0 => ?_)
  · (try simp only [au_std] at hc0); omega
  · (try simp only [au_std] at hc0)
    refine VC.skip ?_
    refine VC.reg tab_ok [] rfl ?_
    refine VX.meek rfl ?_
    first | refine VX.meek rfl ?_ | refine VX.loadI rfl rfl au_l ?_ | refine VX.loadP rfl rfl rfl au_l ?_
    refine VX.mkS (a := 0) (b := w) rfl rfl rfl rfl rfl rfl rfl rfl (by omega) (by omega) (by dsimp only; omega) ?_
    refine VX.meek rfl ?_
    refine VX.nil ?_
    refine VC.seq ?_
    refine VC.reg tab_ok [] rfl ?_
    refine VX.meek rfl ?_
    first | refine VX.meek rfl ?_ | refine VX.loadI rfl rfl au_l ?_ | refine VX.loadP rfl rfl rfl au_l ?_
    iterate 2 refine VX.meek rfl ?_
    first | refine VX.meek rfl ?_ | refine VX.loadI rfl rfl au_l ?_ | refine VX.loadP rfl rfl rfl au_l ?_
    first | refine VX.mul rfl rfl (by omega) ?_ | refine VX.meek rfl ?_
    refine VX.meek rfl ?_
    first | refine VX.add rfl rfl (by omega) ?_ | refine VX.meek rfl ?_
    refine VX.meek rfl ?_
    first | refine VX.meek rfl ?_ | refine VX.loadI rfl rfl au_l ?_ | refine VX.loadP rfl rfl rfl au_l ?_
    first | refine VX.mul rfl rfl (by omega) ?_ | refine VX.meek rfl ?_
    refine VX.slcI (p := y * w) (r := (y + 1) * w) rfl rfl rfl rfl rfl rfl rfl hm1 hm2 (by omega) (by omega) (by omega) ?_; show VX _ _ _ _ _ _ ((30, .islc ((encL cU px).drop (y * w * 1)) ((y + 1) * w - y * w) none) :: _) _ _; rw [show (encL cU px).drop (y * w * 1) = encL cU rw_ from by rw [← hrw]; exact encL_drop cU px (y * w), show (y + 1) * w - y * w = w from by omega]
    iterate 2 refine VX.meek rfl ?_
    refine VX.nil ?_
    refine VC.block ?_
    refine VC.loopS2 (σ1 := Nat) (σ2 := List T) (fun i _ => w - i) (fun i tl => i ≤ w ∧ T.pureL tl = true) (fun i _ => [(32, I64 i), (5, .slc 0 0 (rw_.take i).length 1 none)]) (fun i tl => [.c (encL cU (rw_.take i) ++ tl)]) [30, 31] rfl (0) (zeros w [U8 0]) ?_ ?_ ?_
    · refine ⟨[some 0], rfl, by first | trivial | decide, by first | rfl | (simp only [noO, Bool.and_true, Bool.and_eq_true]; first | assumption | (refine ⟨?_, ?_⟩ <;> assumption)) | (simp only [noO, *, Bool.and_true, Bool.true_and, Bool.and_self]; done), ?_, ?_⟩ <;> (repeat' first | exact trivial | exact CvB_n | exact CvB_d | exact CvB_o rfl | refine CvE_app ?_ ?_ | refine CvE_cons rfl ?_ ?_ | refine CvH_cons ?_ ?_ | refine CvB_c rfl ?_ | fail) <;> first | exact au_v | (exact CvL.pure (pureL_zeros rfl))
    · exact ⟨by omega, pureL_zeros rfl⟩
    rintro i tl ⟨hi, htl⟩
    refine VC.reg tab_ok [] rfl ?_
    refine VX.meek rfl ?_
    refine VX.nil ?_
    refine VC.seq ?_
    refine VC.cond rfl (fun hc1 => ?_) (fun hc1 => ?_)
    · (try simp only [au_std] at hc1); have hil : i < w := (by omega); have hjl : i < rw_.length := (by omega); have hsn := take_snoc hjl; have htk : (rw_.take i).length = i := (by rw [List.length_take]; omega)
      refine VC.skip ?_
      refine VC.seq ?_
      refine VC.block ?_
      refine VC.reg tab_ok [] rfl ?_
      first | refine VX.idxI rfl rfl rfl rfl rfl rfl (by omega) ?_ | refine VX.idxO0 rfl rfl rfl rfl rfl rfl rfl (by omega) ?_ | refine VX.idxO0 rfl rfl rfl rfl rfl rfl au_z (by omega) ?_ | refine VX.idxO rfl rfl rfl rfl rfl rfl rfl (by omega) ?_ | refine VX.idxI rfl rfl rfl rfl rfl au_z (by omega) ?_ | refine VX.idxO rfl rfl rfl rfl rfl rfl au_z (by omega) ?_ | refine VX.meek rfl ?_
      first | refine VX.meek rfl ?_ | refine VX.loadI rfl rfl au_l ?_ | refine VX.loadP rfl rfl rfl au_l ?_
      refine VX.meek rfl ?_
      refine VX.nil ?_
      refine VC.regN tab_ok [38] rfl ?_
      iterate 2 refine VX.meek rfl ?_
      refine VX.newI rfl rfl ?_
      first | refine VX.appendNil rfl rfl rfl rfl rfl rfl au_sR au_sR au_sR ?_ | refine VX.append rfl rfl rfl rfl rfl rfl rfl rfl au_sR au_sR au_sR au_sR au_sR ?_
      refine VX.meek rfl ?_
      refine VX.nil ?_
      refine VC.regN tab_ok [] rfl ?_
      first | refine VX.add rfl rfl (by omega) ?_ | refine VX.meek rfl ?_
      refine VX.meek rfl ?_
      refine VX.nil ?_
      refine ⟨i + 1, [], by (try dsimp only); omega, ?_, (by refine ⟨[some 1], rfl, by first | trivial | decide, by first | rfl | (simp only [noO, Bool.and_true, Bool.and_eq_true]; first | assumption | (refine ⟨?_, ?_⟩ <;> assumption)) | (simp only [noO, *, Bool.and_true, Bool.true_and, Bool.and_self]; done), ?_, ?_⟩ <;> (repeat' first | exact trivial | exact CvB_n | exact CvB_d | exact CvB_o rfl | refine CvE_app ?_ ?_ | refine CvE_cons rfl ?_ ?_ | refine CvH_cons ?_ ?_ | refine CvB_c rfl ?_ | fail) <;> first | exact au_v | (first | exact Cv.slcE rfl (by rw [hsn, List.length_append]; rfl) (.inl rfl) | (rw [hsn]; exact CvL.eq (app_one cU rfl rfl rfl) (by rw [List.append_nil]; exact encL_pure cU _))))⟩
      exact ⟨by omega, rfl⟩
    · (try simp only [au_std] at hc1); obtain rfl : i = w := (by omega)
      refine VC.exit ?_
      refine VC.reg tab_ok [] rfl ?_
      refine VX.meek rfl ?_
      refine VX.strO rfl rfl rfl rfl rfl rfl rfl rfl rfl ?_
      refine VX.meek rfl ?_
      refine VX.nil ?_
      refine VC.ret ?_
      rw [hres]; exact ⟨trivial, _, rfl, Cv.eq rfl rfl⟩
theorem u8_back {p : Int} (h : 0 ≤ p ∧ p < 256) : ((UInt8.ofNat p.toNat).toNat : Int) = p := by
  rw [UInt8.toNat_ofNat_of_lt' (by show p.toNat < 256; omega)]
  exact Int.toNat_of_nonneg h.1
theorem cv_pl {v : Vw} {w h : Nat} {px : List Int} {a b c d : T} (k : Cv v a b) (k2 : Cv v c d) : CvL v [I64 w, I64 h, a, c, I64 w, I64 h, .islc (encL cU px) px.length none] [I64 w, I64 h, b, d, I64 w, I64 h, .islc (encL cU px) px.length none] :=
  .cons (.pure rfl) (.cons (.pure rfl) (.cons k (.cons k2 (.pure (by simp only [T.pureL, T.pure, encL_pure]; rfl)))))
theorem planeOf_t [Dr] (w h : Nat) (px : List Int) (hw : w ≤ 128) (hh : h ≤ 128) (hl : px.length = w * h) (hb : ∀ v ∈ px, 0 ≤ v ∧ v < 256) :
    CallT Try.prog 15 [.agg [I64 w, I64 h, .islc (encL cU px) px.length none]] [] (fun t H' => t = .iptr (plC w h px (nwT 0 px.length)) 0 ∧ H' = [.c (encL cU px)]) := by
  have h3 : w * h ≤ 128 * 128 := Nat.mul_le_mul hw hh
  have hgp : T.pureL [I64 w, I64 h, .islc (encL cU px) px.length none] = true := by simp only [T.pureL, T.pure, encL_pure, Bool.and_self]
  have hmul : (w : Int) * (h : Int) = ((w * h : Nat) : Int) := (Int.natCast_mul w h).symm
  refine CallT.intro tab_ok Try.func15 rfl (by kernel_rfl) (Nat.le_of_ble_eq_true rfl) ?_
  refine VC.reg tab_ok [1] rfl ?_
  refine VX.newI rfl rfl ?_
  refine VX.meek rfl ?_
  refine VX.nil ?_
  refine VC.reg tab_ok [] rfl ?_
  first | refine VX.meek rfl ?_ | refine VX.loadI rfl rfl au_l ?_ | refine VX.loadP rfl rfl rfl au_l ?_
  refine VX.callP0 rfl rfl rfl ((show CallP Try.prog 11 [.agg [I64 w, I64 h, .islc (encL cU px) px.length none]] (.tup [I64 w, I64 h]) from size_p ⟨w, h, px⟩)) ?_
  iterate 5 refine VX.meek rfl ?_
  refine VX.nil ?_
  refine VC.reg tab_ok [] rfl ?_
  iterate 2 refine VX.meek rfl ?_
  first | refine VX.meek rfl ?_ | refine VX.loadI rfl rfl au_l ?_ | refine VX.loadP rfl rfl rfl au_l ?_
  refine VX.meek rfl ?_
  refine VX.new rfl rfl ?_
  refine VX.meek rfl ?_
  refine VX.nil ?_
  refine VC.view ([(5, .ptr 0 0)]) ([.c [I64 w, I64 h, NIL, NIL, I64 w, I64 h, .islc (encL cU px) px.length none]]) [1, 3, 4] rfl (by refine ⟨[some 0], rfl, by first | trivial | decide, by first | rfl | (simp only [noO, Bool.and_true, Bool.and_eq_true]; first | assumption | (refine ⟨?_, ?_⟩ <;> assumption)) | (simp only [noO, *, Bool.and_true, Bool.true_and, Bool.and_self]; done), ?_, ?_⟩ <;> (repeat' first | exact trivial | exact CvB_n | exact CvB_d | exact CvB_o rfl | refine CvE_app ?_ ?_ | refine CvE_cons rfl ?_ ?_ | refine CvH_cons ?_ ?_ | refine CvB_c rfl ?_ | fail) <;> first | exact au_v | (first | exact Cv.pure hgp | exact CvL.eq rfl (by simp only [T.pureL, T.pure, encL_pure]; rfl))) ?_
  refine VC.reg tab_ok [] rfl ?_
  iterate 3 refine VX.meek rfl ?_
  first | refine VX.mul rfl rfl (by omega) ?_ | refine VX.meek rfl ?_
  refine VX.mkS (a := 0) (b := w * h) rfl rfl rfl rfl rfl rfl rfl hmul (by omega) (by omega) (by dsimp only; omega) ?_
  iterate 2 refine VX.meek rfl ?_
  refine VX.store rfl rfl rfl rfl rfl au_sR rfl ?_
  refine VX.nil ?_
  refine VC.seq ?_
  refine VC.reg tab_ok [] rfl ?_
  iterate 2 refine VX.meek rfl ?_
  refine VX.nil ?_
  refine VC.block ?_
  refine VC.loopS2 (σ1 := Nat) (σ2 := List T) (fun y _ => h - y) (fun y tl => y ≤ h ∧ T.pureL tl = true) (fun y _ => [(27, I64 y), (5, .ptr 0 0)]) (fun y tl => [.c [I64 w, I64 h, .slc 1 0 (px.take (y * w)).length 1 none, NIL, I64 w, I64 h, .islc (encL cU px) px.length none], .c (encL cU (px.take (y * w)) ++ tl)]) [1, 26] rfl (0) (zeros (w * h) [U8 0]) ?_ ?_ ?_
  · refine ⟨[some 0, some 1], rfl, by first | trivial | decide, by first | rfl | (simp only [noO, Bool.and_true, Bool.and_eq_true]; first | assumption | (refine ⟨?_, ?_⟩ <;> assumption)) | (simp only [noO, *, Bool.and_true, Bool.true_and, Bool.and_self]; done), ?_, ?_⟩ <;> (repeat' first | exact trivial | exact CvB_n | exact CvB_d | exact CvB_o rfl | refine CvE_app ?_ ?_ | refine CvE_cons rfl ?_ ?_ | refine CvH_cons ?_ ?_ | refine CvB_c rfl ?_ | fail) <;> first | exact au_v | (first | exact Cv.pure hgp | (refine cv_pl (Cv.slcE rfl ?_ (.inr rfl)) (Cv.pure rfl); rw [Nat.zero_mul, List.take_zero]; rfl) | (refine CvL.eq ?_ ?_; (rw [Nat.zero_mul, List.take_zero]; rfl); (rw [Nat.zero_mul, List.take_zero]; exact pureL_append rfl (pureL_zeros rfl))))
  · exact ⟨by omega, pureL_zeros rfl⟩
  rintro y tl ⟨hy, htl⟩
  refine VC.reg tab_ok [] rfl ?_
  refine VX.meek rfl ?_
  refine VX.nil ?_
  refine VC.seq ?_
  refine VC.cond rfl (fun hc0 => ?_) (fun hc0 => ?_)
  · (try simp only [au_std] at hc0); have hyl : y < h := (by omega); have hyw : (y + 1) * w ≤ h * w := Nat.mul_le_mul_right w hyl; have hyw2 : (y + 1) * w = y * w + w := (by rw [Nat.add_mul, Nat.one_mul]); have hhw : w * h = h * w := Nat.mul_comm w h; have hsz := pxRow_size (px := px) hyl hl
    refine VC.skip ?_
    refine VC.seq ?_
    refine VC.block ?_
    refine VC.reg tab_ok [] rfl ?_
    iterate 2 refine VX.meek rfl ?_
    refine VX.nil ?_
    refine VC.reg tab_ok [] rfl ?_
    first | refine VX.meek rfl ?_ | refine VX.loadI rfl rfl au_l ?_ | refine VX.loadP rfl rfl rfl au_l ?_
    refine VX.meek rfl ?_
    refine VX.callP0 rfl rfl rfl (row_p w h px y hw hh hl hyl) ?_
    refine VX.meek rfl ?_
    refine VX.nil ?_
    refine VC.reg tab_ok [] rfl ?_
    refine VX.meek rfl ?_
    refine VX.meek (t := I64 w) (by show (some (T.v (.int .i64 ((pxRow w px y).size : Int)), none) : Option (T × Option (Nat × List T))) = _; rw [hsz]) ?_
    refine VX.meek rfl ?_
    refine VX.nil ?_
    refine VC.block ?_
    refine VC.loopS2 (σ1 := Nat) (σ2 := List T) (fun x _ => w - x) (fun x tl => x ≤ w ∧ T.pureL tl = true) (fun x _ => [(35, I64 x), (5, .ptr 0 0)]) (fun x tl => [.c [I64 w, I64 h, .slc 1 0 (px.take (y * w + x)).length 1 none, NIL, I64 w, I64 h, .islc (encL cU px) px.length none], .c (encL cU (px.take (y * w + x)) ++ tl)]) [1, 7, 26, 27, 34] rfl (0) (tl) ?_ ?_ ?_
    · refine ⟨[some 0, some 1], rfl, by first | trivial | decide, by first | rfl | (simp only [noO, Bool.and_true, Bool.and_eq_true]; first | assumption | (refine ⟨?_, ?_⟩ <;> assumption)) | (simp only [noO, *, Bool.and_true, Bool.true_and, Bool.and_self]; done), ?_, ?_⟩ <;> (repeat' first | exact trivial | exact CvB_n | exact CvB_d | exact CvB_o rfl | refine CvE_app ?_ ?_ | refine CvE_cons rfl ?_ ?_ | refine CvH_cons ?_ ?_ | refine CvB_c rfl ?_ | fail) <;> first | exact au_v | (first | exact Cv.pure hgp | (refine cv_pl (Cv.slcE rfl ?_ (.inr rfl)) (Cv.pure rfl); rfl) | exact CvL.pure (pureL_append (encL_pure cU _) htl))
    · exact ⟨by omega, htl⟩
    rintro x tl2 ⟨hx, htl2⟩
    refine VC.reg tab_ok [] rfl ?_
    refine VX.meek rfl ?_
    refine VX.nil ?_
    refine VC.seq ?_
    refine VC.cond rfl (fun hc1 => ?_) (fun hc1 => ?_)
    · (try simp only [au_std] at hc1); have hxl : x < w := (by omega); have hil : y * w + x < px.length := (by omega); have hsn := take_snoc hil; have hat := pxRow_at (px := px) hxl hil; have hpb := hb px[y * w + x]! (List.mem_iff_getElem?.2 ⟨_, getE hil⟩); have htk : (px.take (y * w + x)).length = y * w + x := (by rw [List.length_take]; omega); have hcl : (encL cU (px.take (y * w + x)) ++ tl2).length = y * w + x + tl2.length := (by rw [List.length_append, encL_len, cU_sz, htk, Nat.mul_one])
      refine VC.skip ?_
      refine VC.seq ?_
      refine VC.block ?_
      refine VC.reg tab_ok [] rfl ?_
      iterate 2 refine VX.meek rfl ?_
      refine VX.nil ?_
      refine VC.drwCN tab_ok [46] [_, _, _, _, _, _, _, _, _, _] ([.c [I64 w, I64 h, .slc 1 0 (px.take (y * w + x)).length 1 none, NIL, I64 w, I64 h, .islc (encL cU px) px.length none], .d]) [false, false, false, false, false, false, false, false, false, true] rfl (by kernel_rfl) (by kernel_rfl) (by kernel_rfl) (by repeat' first | exact seen_nil | refine seen_dead ?_ | refine seen_same ?_) ?_
      refine VD.meek rfl ?_
      refine VD.meek rfl ?_
      refine VD.meek rfl ?_
      refine VD.meek rfl ?_
      first | refine VD.meek rfl ?_ | refine VD.loadI rfl rfl au_l ?_
      refine VD.meek rfl ?_
      refine VD.meek rfl ?_
      refine VD.idxS rfl rfl rfl rfl rfl hat (u8_back hpb) ?_
      refine VD.newI rfl ?_
      refine VD.appO rfl rfl rfl rfl rfl rfl rfl rfl (by rw [hcl, htk]; omega) (by rw [htk]; dsimp only; omega) (by rw [htk]; omega) rfl rfl (seen_same (seen_dead seen_nil)) ?_
      refine VD.nil ?_
      iterate 2 refine VX.meek rfl ?_
      refine VX.store rfl rfl rfl rfl rfl au_sR rfl ?_
      refine VX.nil ?_
      refine VC.regN tab_ok [] rfl ?_
      first | refine VX.add rfl rfl (by omega) ?_ | refine VX.meek rfl ?_
      refine VX.meek rfl ?_
      refine VX.nil ?_
      refine ⟨x + 1, [], by (try dsimp only); omega, ?_, (by refine ⟨[some 0, some 2], rfl, by first | trivial | decide, by first | rfl | (simp only [noO, Bool.and_true, Bool.and_eq_true]; first | assumption | (refine ⟨?_, ?_⟩ <;> assumption)) | (simp only [noO, *, Bool.and_true, Bool.true_and, Bool.and_self]; done), ?_, ?_⟩ <;> (repeat' first | exact trivial | exact CvB_n | exact CvB_d | exact CvB_o rfl | refine CvE_app ?_ ?_ | refine CvE_cons rfl ?_ ?_ | refine CvH_cons ?_ ?_ | refine CvB_c rfl ?_ | fail) <;> first | exact au_v | (first | exact Cv.pure hgp | (refine cv_pl (Cv.slcE rfl ?_ (.inr rfl)) (Cv.pure rfl); rw [show y * w + (x + 1) = y * w + x + 1 from rfl, hsn, List.length_append]; rfl) | (refine CvL.eq ?_ ?_; (rw [show y * w + (x + 1) = y * w + x + 1 from rfl, hsn]; exact app_one cU rfl rfl rfl); (rw [List.append_nil]; exact encL_pure cU _))))⟩
      exact ⟨by omega, rfl⟩
    · (try simp only [au_std] at hc1); obtain rfl : w = x := (by omega)
      refine VC.exit ?_
      refine VC.regN tab_ok [] rfl ?_
      first | refine VX.add rfl rfl (by omega) ?_ | refine VX.meek rfl ?_
      refine VX.meek rfl ?_
      refine VX.nil ?_
      refine ⟨y + 1, tl2, by (try dsimp only); omega, ?_, (by refine ⟨[some 0, some 1], rfl, by first | trivial | decide, by first | rfl | (simp only [noO, Bool.and_true, Bool.and_eq_true]; first | assumption | (refine ⟨?_, ?_⟩ <;> assumption)) | (simp only [noO, *, Bool.and_true, Bool.true_and, Bool.and_self]; done), ?_, ?_⟩ <;> (repeat' first | exact trivial | exact CvB_n | exact CvB_d | exact CvB_o rfl | refine CvE_app ?_ ?_ | refine CvE_cons rfl ?_ ?_ | refine CvH_cons ?_ ?_ | refine CvB_c rfl ?_ | fail) <;> first | exact au_v | (first | exact Cv.pure hgp | (refine cv_pl (Cv.slcE rfl ?_ (.inr rfl)) (Cv.pure rfl); rw [hyw2]) | (rw [show (y + 1) * w = y * w + w from hyw2]; exact CvL.pure (pureL_append (encL_pure cU _) htl2))))⟩
      exact ⟨by omega, htl2⟩
  · (try simp only [au_std] at hc0); obtain rfl : h = y := (by omega); have hall : px.take (h * w) = px := List.take_of_length_le (by rw [hl, Nat.mul_comm]; exact Nat.le_refl _); rw [hall]
    refine VC.view ([(5, .ptr 0 0)]) ([.c [I64 w, I64 h, .islc (encL cU px) px.length none, NIL, I64 w, I64 h, .islc (encL cU px) px.length none]]) [] rfl (by refine ⟨[some 0], rfl, by first | trivial | decide, by first | rfl | (simp only [noO, Bool.and_true, Bool.and_eq_true]; first | assumption | (refine ⟨?_, ?_⟩ <;> assumption)) | (simp only [noO, *, Bool.and_true, Bool.true_and, Bool.and_self]; done), ?_, ?_⟩ <;> (repeat' first | exact trivial | exact CvB_n | exact CvB_d | exact CvB_o rfl | refine CvE_app ?_ ?_ | refine CvE_cons rfl ?_ ?_ | refine CvH_cons ?_ ?_ | refine CvB_c rfl ?_ | fail) <;> first | exact au_v | (exact cv_pl (Cv.fslcA ⟨rfl, by simp⟩ (CvL.pure (encL_pure cU _))) (Cv.pure rfl))) ?_
    refine VC.exit ?_
    refine VC.reg tab_ok [] rfl ?_
    iterate 4 refine VX.meek rfl ?_
    first | refine VX.meek rfl ?_ | refine VX.loadI rfl rfl au_l ?_ | refine VX.loadP rfl rfl rfl au_l ?_
    refine VX.meek rfl ?_
    refine VX.mkS (a := px.length) (b := px.length) rfl rfl rfl rfl rfl rfl rfl rfl (by omega) (by omega) (by dsimp only; omega) ?_
    iterate 2 refine VX.meek rfl ?_
    refine VX.store rfl rfl rfl rfl rfl au_sR rfl ?_
    refine VX.nil ?_
    refine VC.drw tab_ok [] [_, _, _, _, _, _, _, _] rfl (by kernel_rfl) (by kernel_rfl) ?_
    iterate 3 refine VX.meek rfl ?_
    first | refine VX.meek rfl ?_ | refine VX.loadI rfl rfl au_l ?_ | refine VX.loadP rfl rfl rfl au_l ?_
    iterate 3 refine VX.meek rfl ?_
    first | refine VX.meek rfl ?_ | refine VX.loadI rfl rfl au_l ?_ | refine VX.loadP rfl rfl rfl au_l ?_
    refine VX.nil ?_
    refine VX.copyO rfl rfl rfl rfl rfl (src_isl cU rfl rfl rfl) rfl rfl (by simp [zeros]) (by rw [encL_len]; rfl) (encL_cb cU _) ?_
    refine VX.nil ?_
    refine VC.view ([(5, .iptr (plC w h px (nwT 0 px.length)) 0)]) ([.c (encL cU px)]) [] rfl (by refine ⟨[some 1], rfl, by first | trivial | decide, by first | rfl | (simp only [noO, Bool.and_true, Bool.and_eq_true]; first | assumption | (refine ⟨?_, ?_⟩ <;> assumption)) | (simp only [noO, *, Bool.and_true, Bool.true_and, Bool.and_self]; done), ?_, ?_⟩ <;> (repeat' first | exact trivial | exact CvB_n | exact CvB_d | exact CvB_o rfl | refine CvE_app ?_ ?_ | refine CvE_cons rfl ?_ ?_ | refine CvH_cons ?_ ?_ | refine CvB_c rfl ?_ | fail) <;> first | exact au_v | (first | exact Cv.pure hgp | exact CvL.pure (encL_pure cU _) | exact Cv.fptr ⟨rfl, by simp⟩ (cv_pl (Cv.pure (encL_pure cU _)) (Cv.slc rfl (.inr rfl))))) ?_
    refine VC.reg tab_ok [] rfl ?_
    iterate 2 refine VX.meek rfl ?_
    refine VX.nil ?_
    refine VC.ret ?_
    exact ⟨trivial, _, rfl, rfl, rfl⟩
end
section
open Go.RowKit
set_option maxRecDepth 10000
def runLen (p : Nat → Bool) (w : Nat) : Nat → Nat → Nat
  | 0, _ => 0
  | f + 1, x => if x < w ∧ p x = true then runLen p w f (x + 1) + 1 else 0
theorem runLen_spec (p : Nat → Bool) (w : Nat) : ∀ (f x : Nat), w ≤ x + f → (∀ i, i < runLen p w f x → x + i < w ∧ p (x + i) = true) ∧ ¬ (x + runLen p w f x < w ∧ p (x + runLen p w f x) = true)
  | 0, x, h => ⟨fun i hi => by simp [runLen] at hi, fun hh => by simp [runLen] at hh; omega⟩
  | f + 1, x, h => by
    unfold runLen
    split
    · rename_i hc
      obtain ⟨h1, h2⟩ := runLen_spec p w f (x + 1) (by omega)
      refine ⟨fun i hi => ?_, fun hh => h2 ?_⟩
      · cases i with
        | zero => exact hc
        | succ i => have := h1 i (by omega); rw [show x + 1 + i = x + (i + 1) from by omega] at this; exact this
      · rw [show x + 1 + runLen p w f (x + 1) = x + (runLen p w f (x + 1) + 1) from by omega]; exact hh
    · rename_i hc
      exact ⟨fun i hi => by omega, hc⟩
theorem runLen_is {p : Nat → Bool} {w f x j : Nat} (hf : w ≤ x + f) (h1 : ∀ i, i < j → x + i < w ∧ p (x + i) = true) (h2 : ¬ (x + j < w ∧ p (x + j) = true)) : runLen p w f x = j := by
  obtain ⟨k1, k2⟩ := runLen_spec p w f x hf
  rcases Nat.lt_trichotomy (runLen p w f x) j with h | h | h
  · exact absurd (h1 _ h) k2
  · exact h
  · exact absurd (k1 _ h) h2
def chB (px s : List Int) (w y : Nat) (v : Int) (x : Nat) : Bool := (s[y * w + x]! == v) && (px[y * w + x]! != v)
def stepR (px s : List Int) (w y : Nat) (q : Nat × List (List Rect)) : Nat × List (List Rect) :=
  if q.1 < w then
    if runLen (chB px s w y s[y * w + q.1]!) w w q.1 = 0 then (q.1 + 1, q.2)
    else (q.1 + runLen (chB px s w y s[y * w + q.1]!) w w q.1, q.2.set (s[y * w + q.1]!).toNat (q.2[(s[y * w + q.1]!).toNat]! ++ [⟨q.1, y, runLen (chB px s w y s[y * w + q.1]!) w w q.1, 1⟩]))
  else q
def itR (px s : List Int) (w y : Nat) : Nat → Nat × List (List Rect) → Nat × List (List Rect)
  | 0, q => q
  | k + 1, q => stepR px s w y (itR px s w y k q)
theorem stepR_ge {px s : List Int} {w y : Nat} {q : Nat × List (List Rect)} (h : ¬ q.1 < w) : stepR px s w y q = q := if_neg h
theorem itR_le {px s : List Int} {w y : Nat} : ∀ {k : Nat} {q : Nat × List (List Rect)}, (min k w ≤ (itR px s w y k q).1 ∨ ¬ (itR px s w y k q).1 < w)
  | 0, q => .inl (by simp)
  | k + 1, q => by
    show min (k + 1) w ≤ (stepR px s w y (itR px s w y k q)).1 ∨ ¬ (stepR px s w y (itR px s w y k q)).1 < w
    have ih := itR_le (px := px) (s := s) (w := w) (y := y) (k := k) (q := q)
    generalize itR px s w y k q = r at ih
    unfold stepR
    split
    · split
      · dsimp only; omega
      · dsimp only; omega
    · omega
theorem itR_stay {px s : List Int} {w y k : Nat} {q : Nat × List (List Rect)} (h : ¬ (itR px s w y k q).1 < w) : ∀ j, itR px s w y (k + j) q = itR px s w y k q
  | 0 => rfl
  | j + 1 => by
    show stepR px s w y (itR px s w y (k + j) q) = _
    rw [itR_stay h j, stepR_ge h]
theorem itR_end {px s : List Int} {w y k x : Nat} {q : Nat × List (List Rect)} {ls : List (List Rect)} (hk : itR px s w y k q = (x, ls)) (h : ¬ x < w) : (itR px s w y w q).2 = ls := by
  have h1 : ¬ (itR px s w y k q).1 < w := by rw [hk]; exact h
  have h2 : ¬ (itR px s w y w q).1 < w := by
    rcases itR_le (px := px) (s := s) (w := w) (y := y) (k := w) (q := q) with g | g
    · omega
    · exact g
  have e1 := itR_stay h1 w
  have e2 := itR_stay h2 k
  rw [Nat.add_comm] at e2
  rw [← e2, e1, hk]
def runsTo (px s : List Int) (w : Nat) : Nat → List (List Rect)
  | 0 => List.replicate 256 []
  | y + 1 => (itR px s w y w (0, runsTo px s w y)).2
theorem stepR_len {px s : List Int} {w y : Nat} {q : Nat × List (List Rect)} : (stepR px s w y q).2.length = q.2.length := by
  unfold stepR; split
  · split
    · rfl
    · simp
  · rfl
theorem itR_len {px s : List Int} {w y : Nat} {q : Nat × List (List Rect)} : ∀ k, (itR px s w y k q).2.length = q.2.length
  | 0 => rfl
  | k + 1 => by show (stepR px s w y (itR px s w y k q)).2.length = _; rw [stepR_len, itR_len k]
theorem runsTo_len (px s : List Int) (w : Nat) : ∀ y, (runsTo px s w y).length = 256
  | 0 => by simp [runsTo]
  | y + 1 => by unfold runsTo; rw [itR_len, runsTo_len px s w y]
theorem bang_set {α : Type} [Inhabited α] (l : List α) (v u : Nat) (x : α) : (l.set v x)[u]! = if v = u ∧ u < l.length then x else l[u]! := by
  simp only [List.getElem!_eq_getElem?_getD, List.getElem?_set]
  by_cases h : v = u
  · subst h
    by_cases h2 : v < l.length
    · simp [h2]
    · simp [h2, List.getElem?_eq_none (by omega : l.length ≤ v)]
  · simp [h]
theorem itR_few {px s : List Int} {w y m : Nat} {q : Nat × List (List Rect)} (h : ∀ v : Nat, q.2[v]!.length ≤ m + q.1) : ∀ (k v : Nat), (itR px s w y k q).2[v]!.length ≤ m + (itR px s w y k q).1
  | 0, v => h v
  | k + 1, v => by
    show (stepR px s w y (itR px s w y k q)).2[v]!.length ≤ m + (stepR px s w y (itR px s w y k q)).1
    have ih := itR_few h k (px := px) (s := s) (w := w) (y := y)
    generalize itR px s w y k q = r at ih
    unfold stepR
    split
    · split
      · have := ih v; dsimp only; omega
      · dsimp only
        have := ih v
        rw [bang_set]
        split
        · rename_i hv
          rw [hv.1, List.length_append, List.length_singleton]; omega
        · omega
    · exact ih v
theorem itR_x {px s : List Int} {w y : Nat} {q : Nat × List (List Rect)} (h : q.1 ≤ w) : ∀ k, (itR px s w y k q).1 ≤ w
  | 0 => h
  | k + 1 => by
    show (stepR px s w y (itR px s w y k q)).1 ≤ w
    have ih := itR_x h k (px := px) (s := s) (y := y)
    generalize itR px s w y k q = r at ih
    unfold stepR
    split
    · rename_i hlt
      split
      · dsimp only; omega
      · rename_i hne
        have := (runLen_spec (chB px s w y s[y * w + r.1]!) w w r.1 (by omega)).1 (runLen (chB px s w y s[y * w + r.1]!) w w r.1 - 1) (by omega)
        dsimp only; omega
    · exact ih
theorem runsTo_few (px s : List Int) (w : Nat) : ∀ (y v : Nat), (runsTo px s w y)[v]!.length ≤ y * w
  | 0, v => by
    unfold runsTo
    rw [List.getElem!_eq_getElem?_getD, List.getElem?_replicate]; split
    · simp
    · show ([] : List Rect).length ≤ _; simp
  | y + 1, v => by
    unfold runsTo
    have h1 := itR_few (px := px) (s := s) (w := w) (y := y) (m := y * w) (q := (0, runsTo px s w y)) (fun v => runsTo_few px s w y v) w v
    have h2 := itR_x (px := px) (s := s) (w := w) (y := y) (q := (0, runsTo px s w y)) (Nat.zero_le _) w
    rw [Nat.add_mul, Nat.one_mul]; omega
def OutR (ls : List (List Rect)) (H : Hp) : Prop := ∃ cells : List T, ls.length = 256 ∧ lookH H 0 = some cells ∧ cells.length = 256 ∧ (cells.all cellB = true) ∧ ∃ bs : Nat → Nat, (∀ u v, u < 256 → v < 256 → ls[u]! ≠ [] → ls[v]! ≠ [] → bs u = bs v → u = v) ∧
  ∀ v, v < 256 → (ls[v]! = [] ∧ cells[v]? = some NIL) ∨ (ls[v]! ≠ [] ∧ bs v ≠ 0 ∧ cells[v]? = some (.slc (bs v) 0 ls[v]!.length 4 none) ∧ lookH H (bs v) = some (encL cR ls[v]!))
theorem getD_set {ls : List (List Rect)} {v u : Nat} {x : List Rect} (hv : v < ls.length) : (ls.set v x)[u]! = if u = v then x else ls[u]! := by
  rw [bang_set]
  by_cases h : u = v
  · subst h; rw [if_pos ⟨rfl, hv⟩, if_pos rfl]
  · rw [if_neg (fun e => h e.1.symm), if_neg h]
theorem out_step {ls : List (List Rect)} {H : Hp} (h : OutR ls H) {v : Nat} (hv : v < 256) (r : Rect) (hn : ls[v]!.length ≤ 100000) {tab : Tab} {t1 t2 e : Nat} {i j i2 : TyI} (hT : tab t1 = some i) (hk : i.k = .sl e) (hj : tab e = some j) (hsz : j.sz = 4) (hby : j.by_ ≤ 1000) (hT2 : tab t2 = some i2) {e2 : Nat} (hk2 : i2.k = .sl e2) :
    ∃ (cells : List T) (tv : T) (H2 : Hp), lookH H 0 = some cells ∧ cells.length = 256 ∧ cells[v]? = some tv ∧ mAppend tab H t1 t2 tv (.islc (cR.cells r) 1 (some 1)) = some (.slc H.length 0 (ls[v]!.length + 1) 4 none, H2) ∧ lookH H2 0 = some cells ∧ 0 < H.length ∧
      OutR (ls.set v (ls[v]! ++ [r])) (setH H2 0 (.c (putL cells v [.slc H.length 0 (ls[v]!.length + 1) 4 none]))) := by
  obtain ⟨cells, h0, h1, h2, h2b, bs, h3, h4⟩ := h
  have hH := lookH_lt h1
  have hput : putL cells v [T.slc H.length 0 (ls[v]!.length + 1) 4 none] = cells.set v (T.slc H.length 0 (ls[v]!.length + 1) 4 none) := by
    unfold putL
    rw [List.set_eq_take_append_cons_drop, if_pos (by omega)]; simp
  have hsrc : srcCells tab (lookH H) t2 j.sz (.islc (cR.cells r) 1 (some 1)) = some (cR.cells r, 1) := by
    unfold srcCells
    rw [hT2]
    simp only [hk2, hsz]
    rfl
 
  have key : ∀ (tv : T) (H2 : Hp), cells[v]? = some tv → mAppend tab H t1 t2 tv (.islc (cR.cells r) 1 (some 1)) = some (.slc H.length 0 (ls[v]!.length + 1) 4 none, H2) → H2.length = H.length + 1 → lookH H2 0 = some cells → lookH H2 H.length = some (encL cR (ls[v]! ++ [r])) →
      (∀ u, u < 256 → u ≠ v → ls[u]! ≠ [] → lookH H2 (bs u) = lookH H (bs u)) →
      ∃ (cells : List T) (tv : T) (H2 : Hp), lookH H 0 = some cells ∧ cells.length = 256 ∧ cells[v]? = some tv ∧ mAppend tab H t1 t2 tv (.islc (cR.cells r) 1 (some 1)) = some (.slc H.length 0 (ls[v]!.length + 1) 4 none, H2) ∧ lookH H2 0 = some cells ∧ 0 < H.length ∧
      OutR (ls.set v (ls[v]! ++ [r])) (setH H2 0 (.c (putL cells v [.slc H.length 0 (ls[v]!.length + 1) 4 none]))) := by
    intro tv H2 g1 g2 g3 g4 g5 g6
    refine ⟨cells, tv, H2, h1, h2, g1, g2, g4, hH, ?_⟩
    rw [hput]
    have hlk : ∀ b cs, b ≠ 0 → lookH H2 b = some cs → lookH (setH H2 0 (.c (cells.set v (.slc H.length 0 (ls[v]!.length + 1) 4 none)))) b = some cs := fun b cs hb hcs => by
      rw [lookH_c] at hcs ⊢
      rw [blkH_set _ _ _ _ (by omega), if_neg hb]; exact hcs
    refine ⟨cells.set v (.slc H.length 0 (ls[v]!.length + 1) 4 none), by simp [h0], by rw [lookH_c, blkH_set _ _ _ _ (by omega), if_pos rfl], by rw [List.length_set]; exact h2, ?_, fun u => if u = v then H.length else bs u, ?_, ?_⟩
    · rw [List.all_eq_true]
      intro t ht
      rcases List.mem_or_eq_of_mem_set ht with ht | rfl
      · exact List.all_eq_true.1 h2b t ht
      · rfl
    · intro a b ha hb hna hnb hab
      rw [getD_set (by omega)] at hna hnb
      dsimp only at hab
      by_cases ea : a = v <;> by_cases eb : b = v
      · omega
      · rw [if_pos ea, if_neg eb] at hab
        rw [if_neg eb] at hnb
        rcases h4 b hb with ⟨q1, -⟩ | ⟨-, -, -, q4⟩
        · exact absurd q1 hnb
        · have := lookH_lt q4; omega
      · rw [if_neg ea, if_pos eb] at hab
        rw [if_neg ea] at hna
        rcases h4 a ha with ⟨q1, -⟩ | ⟨-, -, -, q4⟩
        · exact absurd q1 hna
        · have := lookH_lt q4; omega
      · rw [if_neg ea, if_neg eb] at hab
        rw [if_neg ea] at hna
        rw [if_neg eb] at hnb
        exact h3 a b ha hb hna hnb hab
    · intro u hu
      rw [getD_set (by omega), List.getElem?_set]
      by_cases e : u = v
      · subst e
        simp only [if_pos]
        refine .inr ⟨by simp, by omega, by rw [if_pos (by omega)]; simp, hlk _ _ (by omega) g5⟩
      · rw [if_neg e, if_neg (fun q => e q.symm)]
        simp only [if_neg e]
        rcases h4 u hu with ⟨q1, q2⟩ | ⟨q1, q2, q3, q4⟩
        · exact .inl ⟨q1, q2⟩
        · exact .inr ⟨q1, q2, q3, hlk _ _ q2 ((g6 u hu e q1).trans q4)⟩
  rcases h4 v hv with ⟨q1, q2⟩ | ⟨q1, q2, q3, q4⟩
  · refine key NIL (H ++ [.c (cR.cells r)]) q2 ?_ (by simp) (lookH_old h1) (by rw [q1]; exact lookH_new _ _) fun u hu hne hnu => ?_
    · simp only [mAppend, hT, hk, hj, hsrc]
      rw [if_pos ⟨by omega, by omega, by rw [cR.len, hsz]; rfl⟩, q1, hsz]
      rfl
    · rcases h4 u hu with ⟨p1, -⟩ | ⟨-, -, -, p4⟩
      · exact absurd p1 hnu
      · rw [p4]; exact lookH_old p4
  · have hbl := lookH_lt q4
    have hel : (encL cR ls[v]!).length = ls[v]!.length * 4 := encL_len cR _
    have hkeep : ∀ b cs, b ≠ bs v → lookH H b = some cs → lookH (setH H (bs v) .d ++ [.c (encL cR (ls[v]! ++ [r]))]) b = some cs := fun b cs hb hcs => by
      refine lookH_old ?_
      rw [lookH_c] at hcs ⊢
      rw [blkH_set _ _ _ _ hbl, if_neg hb]; exact hcs
    refine key (.slc (bs v) 0 ls[v]!.length 4 none) (setH H (bs v) .d ++ [.c (encL cR (ls[v]! ++ [r]))]) q3 ?_ (by simp [setH_length]) (hkeep 0 cells (fun e => q2 e.symm) h1) ?_ fun u hu hne hnu => ?_
    · simp only [mAppend, hT, hk, hj, hsrc, q4]
      have hm : (ls[v]!.length + 1) * j.by_ ≤ 100001 * 1000 := Nat.mul_le_mul (by omega) hby
      rw [if_pos ⟨hsz.symm, by rw [hel]; omega, by omega, by omega, by rw [cR.len, hsz]; rfl, cR.cb r⟩]
      congr 4
      rw [List.drop_zero, ← hel, List.take_length, encL_append]
      simp [encL]
    · have := lookH_new (setH H (bs v) .d) (encL cR (ls[v]! ++ [r]))
      rw [setH_length] at this
      exact this
    · rcases h4 u hu with ⟨p1, -⟩ | ⟨-, -, -, p4⟩
      · exact absurd p1 hnu
      · rw [p4]
        exact hkeep _ _ (fun e => hne (h3 u v hu hv hnu q1 e)) p4
theorem out_start : OutR (List.replicate 256 []) [.c (zeros 256 [NIL])] := by
  refine ⟨zeros 256 [NIL], by simp, rfl, rfl, rfl, fun _ => 0, fun u v hu hv h => ?_, fun v hv => .inl ?_⟩
  · rw [List.getElem!_eq_getElem?_getD, List.getElem?_replicate, if_pos hu] at h; exact absurd rfl h
  · refine ⟨by rw [List.getElem!_eq_getElem?_getD, List.getElem?_replicate, if_pos hv]; rfl, ?_⟩
    have : zeros 256 [NIL] = List.replicate 256 NIL := by rfl
    rw [this, List.getElem?_replicate, if_pos hv]
theorem out_cv {ls : List (List Rect)} {H : Hp} (h : OutR ls H) {c : Option Nat} : Cv (vwL H []) (.slc 0 0 256 1 c) (.islc (encL cLR ls) 256 none) := by
  obtain ⟨cells, h0, h1, h2, h2b, bs, h3, h4⟩ := h
  refine Cv.fslc0 ⟨h1, by simp⟩ ?_
  have go : ∀ (k : Nat), k ≤ 256 → CvL (vwL H []) (cells.drop k) (encL cLR (ls.drop k)) := by
    intro k
    induction hm : 256 - k generalizing k with
    | zero =>
      intro hk
      rw [List.drop_of_length_le (by omega), List.drop_of_length_le (by omega)]; exact CvL.nil
    | succ m ih =>
      intro hk
      rw [List.drop_eq_getElem_cons (by omega : k < cells.length), List.drop_eq_getElem_cons (by omega : k < ls.length), encL_cons]
      refine CvL.cons ?_ (ih (k + 1) (by omega) (by omega))
      rcases h4 k (by omega) with ⟨q1, q2⟩ | ⟨q1, q2, q3, q4⟩
      · rw [List.getElem?_eq_getElem (by omega)] at q2
        injection q2 with q2
        rw [q2]
        rw [getElem!_pos ls k (by omega)] at q1
        rw [q1]
        exact Cv.nil _ (.inl rfl)
      · rw [List.getElem?_eq_getElem (by omega)] at q3
        injection q3 with q3
        rw [q3]
        rw [getElem!_pos ls k (by omega)] at q4 ⊢
        exact Cv.fslc0 ⟨q4, by simp⟩ (CvL.pure (encL_pure cR _))
  have := go 0 (by omega)
  rwa [List.drop_zero, List.drop_zero] at this
end
section
open Go.RowKit
set_option maxRecDepth 10000
theorem VX.appM [Dr] {P : Program} {tab : Tab} {im : List Nat} {ds : List (Option Nat)} {l : List Oper} {E : Env} {H : Hp} {K : Env → Hp → Prop} {d : Nat} {ty : TypeId} {pos : String} {after : Array Edge} {x y : Operand} {t1 t2 : TypeId} {ta tb t : T} {F1 : Hp} (hx : E.opd x = some ta) (hy : E.opd y = some tb) (ha : mAppend tab H t1 t2 ta tb = some (t, F1))
    (k : VX false P tab im ds l ((d, t) :: E) F1 K) : VX false P tab im ds (⟨some d, .call ⟨.builtin .append, #[x, y], #[t1, t2]⟩, ty, pos, after, none⟩ :: l) E H K := by
  intro E2 he
  show vcGuard ds E2 _ _ _
  unfold vcGuard vcOp
  simp only [he.opd hx, he.opd hy, ha]
  exact k _ (he.put (some d) _)
theorem idx_nat (x y w : Nat) : ((y : Int) * (w : Int) + (x : Int)).toNat = y * w + x := by
  rw [show ((y : Int) * (w : Int) + (x : Int)) = ((y * w + x : Nat) : Int) from by simp, Int.toNat_natCast]
theorem now_n [Dr] (w h : Nat) (px s : List Int) (x y : Nat) (hw : w ≤ 128) (hh : h ≤ 128) (hl : px.length = w * h) (hs : s.length = w * h) (hx2 : x < w) (hy2 : y < h) :
    CallP Try.prog 35 [.iptr (plC w h px (.islc (encL cU s) s.length none)) 0, I64 x, I64 y] (U8 s[y * w + x]!) := by
  have := now_p w h px s x y hw hh hl hs (by omega) (by omega) (by omega) (by omega)
  rwa [idx_nat] at this
theorem was_n [Dr] (w h : Nat) (px s : List Int) (x y : Nat) (hw : w ≤ 128) (hh : h ≤ 128) (hl : px.length = w * h) (hx2 : x < w) (hy2 : y < h) :
    CallP Try.prog 36 [.iptr (plC w h px (.islc (encL cU s) s.length none)) 0, I64 x, I64 y] (U8 px[y * w + x]!) := by
  have := was_t w h px (.islc (encL cU s) s.length none) [] x y hw hh hl (by omega) (by omega) (by omega) (by omega)
  rw [idx_nat] at this
  exact CallP.intro2 (by simp only [T.pureL, T.pure, encL_pure]; rfl) rfl (this.mono fun t H' ⟨h1, h2⟩ => by subst h1; exact Cv.eq rfl rfl)
theorem changed_p [Dr] (w h : Nat) (px s : List Int) (hw : w ≤ 128) (hh : h ≤ 128) (hl : px.length = w * h) (hs : s.length = w * h) (hb : ∀ v ∈ s, 0 ≤ v ∧ v < 256) :
    CallP Try.prog 28 [.iptr (plC w h px (.islc (encL cU s) s.length none)) 0] (.islc (encL cLR (runsTo px s w h)) 256 none) := by
  have hwh : w * h ≤ 128 * 128 := Nat.mul_le_mul hw hh
  refine CallP.intro2 au_pu au_pu ?_
  refine CallT.intro tab_ok Try.func28 rfl (by kernel_rfl) (Nat.le_of_ble_eq_true rfl) ?_
  refine VC.reg tab_ok [] rfl ?_
  refine VX.meek rfl ?_
  refine VX.nil ?_
  refine VC.reg tab_ok [] rfl ?_
  refine VX.mkS (a := 256) (b := 256) rfl rfl rfl rfl rfl rfl rfl rfl (by omega) (by omega) (by dsimp only; omega) ?_
  refine VX.meek rfl ?_
  refine VX.nil ?_
  refine VC.seq ?_
  refine VC.reg tab_ok [] rfl ?_
  iterate 3 refine VX.meek rfl ?_
  first | refine VX.meek rfl ?_ | refine VX.loadI rfl rfl au_l ?_ | refine VX.loadP rfl rfl rfl au_l ?_
  refine VX.meek rfl ?_
  refine VX.nil ?_
  refine VC.block ?_
  refine VC.loopH (σ := Nat) (fun y => h - y) (fun y H => y ≤ h ∧ OutR (runsTo px s w y) H) (fun y => [(13, I64 y)]) [0, 3, 12] rfl (0) (au_sub) (⟨by omega, out_start⟩) ?_
  rintro y H1 ⟨hy, hR⟩
  refine VC.reg tab_ok [] rfl ?_
  refine VX.meek rfl ?_
  refine VX.nil ?_
  refine VC.seq ?_
  refine VC.cond rfl (fun hc0 => ?_) (fun hc0 => ?_)
  · (try simp only [au_std] at hc0); have hyl : y < h := (by omega); have hyw : (y + 1) * w ≤ h * w := Nat.mul_le_mul_right w hyl; have hyw2 : (y + 1) * w = y * w + w := (by rw [Nat.add_mul, Nat.one_mul]); have hhw : w * h = h * w := Nat.mul_comm w h
    refine VC.skip ?_
    refine VC.seq ?_
    refine VC.block ?_
    refine VC.reg tab_ok [] rfl ?_
    iterate 2 refine VX.meek rfl ?_
    refine VX.nil ?_
    refine VC.reg tab_ok [] rfl ?_
    refine VX.meek rfl ?_
    refine VX.nil ?_
    refine VC.block ?_
    refine VC.loopH3 (σ1 := Nat) (σ2 := Nat) (σ3 := List (List Rect)) (fun k x ls => w - x) (fun k x ls H => x ≤ w ∧ itR px s w y k (0, runsTo px s w y) = (x, ls) ∧ OutR ls H) (fun k x ls => [(5, I64 x)]) [0, 3, 4, 12, 13] rfl (0) (0) (runsTo px s w y) (au_sub) (⟨by omega, rfl, hR⟩) ?_
    rintro k x ls H2 ⟨hx, hit, hR2⟩
    refine VC.seq ?_
    refine VC.reg tab_ok [] rfl ?_
    iterate 4 refine VX.meek rfl ?_
    first | refine VX.meek rfl ?_ | refine VX.loadI rfl rfl au_l ?_ | refine VX.loadP rfl rfl rfl au_l ?_
    refine VX.meek rfl ?_
    refine VX.nil ?_
    refine VC.cond rfl (fun hc1 => ?_) (fun hc1 => ?_)
    · (try simp only [au_std] at hc1); have hxl : x < w := (by omega); have hpb := hb s[y * w + x]! (List.mem_iff_getElem?.2 ⟨_, getE (by omega)⟩)
      have hfew := itR_few (px := px) (s := s) (w := w) (y := y) (m := y * w) (q := (0, runsTo px s w y)) (fun v => runsTo_few px s w y v) k
      rw [hit] at hfew; dsimp only at hfew
      refine VC.skip ?_
      refine VC.block ?_
      refine VC.reg tab_ok [] rfl ?_
      iterate 3 refine VX.meek rfl ?_
      refine VX.callP0 rfl rfl rfl (now_n w h px s x y hw hh hl hs hxl hyl) ?_
      iterate 3 refine VX.meek rfl ?_
      refine VX.nil ?_
      refine VC.seq ?_
      refine VC.block ?_
      refine VC.loopH (σ := Nat) (fun j => w - (x + j)) (fun j H => OutR ls H ∧ x + j ≤ w ∧ (∀ i, i < j → x + i < w ∧ chB px s w y s[y * w + x]! (x + i) = true)) (fun j => [(5, I64 ((x + j : Nat) : Int))]) [0, 3, 4, 6, 7, 12, 13] rfl (0) (au_sub) (⟨hR2, by omega, fun i hi => by omega⟩) ?_
      rintro j H3 ⟨hR3, hxj, hJ⟩
      refine VC.seq ?_
      refine VC.reg tab_ok [] rfl ?_
      iterate 4 refine VX.meek rfl ?_
      first | refine VX.meek rfl ?_ | refine VX.loadI rfl rfl au_l ?_ | refine VX.loadP rfl rfl rfl au_l ?_
      iterate 2 refine VX.meek rfl ?_
      refine' VX.merge (d := 40) [_, _, _, _, _, _, _] rfl ?_ rfl ?_
      rotate_left
      · refine VX.guard rfl rfl (fun hb8_6 => ?_) (fun hb8_6 => ?_)
        · have ghb8_6 := hb8_6
          try simp only [au_std, Bool.not_true, Bool.not_false] at ghb8_6
          refine VX.meek rfl ?_
          refine VX.guardT rfl rfl hb8_6 ?_
          refine VX.meek rfl ?_
          refine VX.guardT rfl rfl hb8_6 ?_
          refine VX.meek rfl ?_
          refine VX.guardT rfl rfl hb8_6 ?_
          refine VX.callP0 rfl rfl rfl (now_n w h px s (x + j) y hw hh hl hs (by omega) hyl) ?_
          refine VX.guardT rfl rfl hb8_6 ?_
          refine VX.meek rfl ?_
          refine VX.guardT rfl rfl hb8_6 ?_
          refine VX.meek rfl ?_
          refine VX.pickA rfl (fun _ => rfl) ?_
          exact VX.nil ⟨rfl, rfl⟩
        · refine VX.guardF rfl rfl hb8_6 ?_
          iterate 4 refine VX.guardF rfl rfl hb8_6 ?_
          exact VX.pickA rfl (fun h => absurd (h.symm.trans hb8_6) (by decide)) (VX.nil ⟨rfl, rfl⟩)
      refine VX.meek rfl ?_
      refine' VX.merge (d := 48) [_, _, _, _, _, _, _] rfl ?_ rfl ?_
      rotate_left
      · refine VX.guard rfl rfl (fun hb8_14 => ?_) (fun hb8_14 => ?_)
        · have ghb8_14 := hb8_14
          try simp only [au_std, Bool.not_true, Bool.not_false] at ghb8_14
          refine VX.meek rfl ?_
          refine VX.guardT rfl rfl hb8_14 ?_
          refine VX.meek rfl ?_
          refine VX.guardT rfl rfl hb8_14 ?_
          refine VX.meek rfl ?_
          refine VX.guardT rfl rfl hb8_14 ?_
          refine VX.callP0 rfl rfl rfl (was_n w h px s (x + j) y hw hh hl (by omega) hyl) ?_
          refine VX.guardT rfl rfl hb8_14 ?_
          refine VX.meek rfl ?_
          refine VX.guardT rfl rfl hb8_14 ?_
          refine VX.meek rfl ?_
          refine VX.pickA rfl (fun _ => rfl) ?_
          exact VX.nil ⟨rfl, rfl⟩
        · refine VX.guardF rfl rfl hb8_14 ?_
          iterate 4 refine VX.guardF rfl rfl hb8_14 ?_
          exact VX.pickA rfl (fun h => absurd (h.symm.trans hb8_14) (by decide)) (VX.nil ⟨rfl, rfl⟩)
      refine VX.nil ?_
      refine VC.cond rfl (fun hc2 => ?_) (fun hc2 => ?_)
      · (try simp only [au_std] at hc2); have hq : x + j < w ∧ chB px s w y s[y * w + x]! (x + j) = true := ⟨by omega, by unfold chB; simp only [Bool.and_eq_true, beq_iff_eq, bne_iff_ne, ne_eq]; first | exact ⟨hc2.1.2, hc2.2⟩ | exact ⟨hc2.2.1, hc2.2.2⟩⟩
        refine VC.skip ?_
        refine VC.block ?_
        refine VC.regN tab_ok [] rfl ?_
        refine VX.meek rfl ?_
        first | refine VX.add rfl rfl (by omega) ?_ | refine VX.meek rfl ?_
        refine VX.meek rfl ?_
        refine VX.nil ?_
        exact ⟨j + 1, by (try dsimp only); omega, ⟨hR3, by omega, fun i hi => by rcases Nat.lt_or_ge i j with g | g; exact hJ i g; rw [show i = j by omega]; exact hq⟩, au_sub⟩
      · have hq : ¬ (x + j < w ∧ chB px s w y s[y * w + x]! (x + j) = true) := (fun ⟨h1, h2⟩ => by unfold chB at h2; simp at h2 hc2; omega)
        have hn := runLen_is (p := chB px s w y s[y * w + x]!) (w := w) (f := w) (x := x) (by omega) hJ hq
        refine VC.exit ?_
        refine VC.seq ?_
        refine VC.reg tab_ok [] rfl ?_
        iterate 3 refine VX.meek rfl ?_
        refine VX.nil ?_
        refine VC.cond rfl (fun hc3 => ?_) (fun hc3 => ?_)
        · (try simp only [au_std] at hc3); obtain rfl : j = 0 := (by omega)
          refine VC.reg tab_ok [] rfl ?_
          refine VX.meek rfl ?_
          first | refine VX.add rfl rfl (by omega) ?_ | refine VX.meek rfl ?_
          refine VX.meek rfl ?_
          refine VX.nil ?_
          refine VC.exit ?_
          exact ⟨k + 1, x + 1, ls, by (try dsimp only); omega, ⟨by omega, by show stepR px s w y (itR px s w y k (0, runsTo px s w y)) = _; rw [hit]; unfold stepR; rw [if_pos hxl, if_pos hn], hR3⟩, au_sub⟩
        · (try simp only [au_std] at hc3); have hj0 : 0 < j := (by omega); have hv : (s[y * w + x]!).toNat < 256 := (by omega); have hsub : ((x + j : Nat) : Int) - (x : Int) = (j : Int) := (by omega); have hf1 := hfew (s[y * w + x]!).toNat
          obtain ⟨cells, tv, F1, hc0', hcl, htv, hap, hlk2, hH0, hOut⟩ := out_step hR3 hv ⟨x, y, j, 1⟩ (by omega) (tab := tab) (t1 := 69) (t2 := 69) rfl rfl rfl rfl (by decide) rfl rfl
          refine VC.skip ?_
          refine VC.regN tab_ok [68] rfl ?_
          iterate 4 refine VX.meek rfl ?_
          first | refine VX.idxI rfl rfl rfl rfl rfl rfl (by omega) ?_ | refine VX.idxO0 rfl rfl rfl rfl rfl rfl rfl (by omega) ?_ | refine VX.idxO0 rfl rfl rfl rfl rfl rfl au_z (by omega) ?_ | refine VX.idxO rfl rfl rfl rfl rfl rfl rfl (by omega) ?_ | refine VX.idxI rfl rfl rfl rfl rfl au_z (by omega) ?_ | refine VX.idxO rfl rfl rfl rfl rfl rfl au_z (by omega) ?_ | refine VX.meek rfl ?_
          refine VX.loadP rfl rfl hc0' (by show cells[(s[y * w + x]!).toNat * 1]? = some tv; rw [Nat.mul_one]; exact htv) ?_
          iterate 4 refine VX.meek rfl ?_
          refine VX.sub rfl rfl (by omega) ?_; rw [hsub]
          refine VX.meek rfl ?_
          refine VX.newI rfl rfl ?_
          refine VX.appM rfl rfl hap ?_
          first | refine VX.idxI rfl rfl rfl rfl rfl rfl (by omega) ?_ | refine VX.idxO0 rfl rfl rfl rfl rfl rfl rfl (by omega) ?_ | refine VX.idxO0 rfl rfl rfl rfl rfl rfl au_z (by omega) ?_ | refine VX.idxO rfl rfl rfl rfl rfl rfl rfl (by omega) ?_ | refine VX.idxI rfl rfl rfl rfl rfl au_z (by omega) ?_ | refine VX.idxO rfl rfl rfl rfl rfl rfl au_z (by omega) ?_ | refine VX.meek rfl ?_
          refine VX.store rfl rfl rfl hlk2 rfl (by rw [hcl]; dsimp only; omega) rfl ?_
          refine VX.nil ?_
          exact ⟨k + 1, x + j, ls.set (s[y * w + x]!).toNat (ls[(s[y * w + x]!).toNat]! ++ [⟨x, y, j, 1⟩]), by (try dsimp only); omega, ⟨by omega, by show stepR px s w y (itR px s w y k (0, runsTo px s w y)) = _; rw [hit]; unfold stepR; rw [if_pos hxl, if_neg (by dsimp only; rw [hn]; omega)]; dsimp only; rw [hn], by show OutR _ (setH _ 0 (.c (putL cells ((s[y * w + x]!).toNat * 1) [_]))); rw [Nat.mul_one]; exact hOut⟩, au_sub⟩
    · (try simp only [au_std] at hc1)
      refine VC.exit ?_
      refine VC.regN tab_ok [] rfl ?_
      first | refine VX.add rfl rfl (by omega) ?_ | refine VX.meek rfl ?_
      refine VX.meek rfl ?_
      refine VX.nil ?_
      exact ⟨y + 1, by (try dsimp only); omega, ⟨by omega, by unfold runsTo; rw [itR_end hit (by omega)]; exact hR2⟩, au_sub⟩
  · (try simp only [au_std] at hc0); obtain rfl : h = y := (by omega)
    refine VC.exit ?_
    refine VC.reg tab_ok [] rfl ?_
    iterate 2 refine VX.meek rfl ?_
    refine VX.nil ?_
    refine VC.ret ?_
    exact ⟨trivial, _, rfl, out_cv hR⟩
end
section
open Go.RowKit
structure RunI (px s : List Int) (w y x : Nat) (ls : List (List Rect)) : Prop where
  len : ls.length = 256
  rs : ∀ (v : Nat) (r : Rect), r ∈ ls[v]! → 0 ≤ r.X ∧ 0 < r.W ∧ r.X + r.W ≤ w ∧ 0 ≤ r.Y ∧ r.Y ≤ y ∧ r.H = 1
  at_ : ∀ (v a b : Nat), v < 256 → a < w → (inL ls[v]! a b ↔ (b < y ∨ (b = y ∧ a < x)) ∧ s[b * w + a]! = v ∧ px[b * w + a]! ≠ v)
theorem RunI.step {px s : List Int} {w y x : Nat} {ls : List (List Rect)} (h : RunI px s w y x ls) (hb : ∀ i : Nat, 0 ≤ s[i]! ∧ s[i]! < 256) : RunI px s w y (stepR px s w y (x, ls)).1 (stepR px s w y (x, ls)).2 := by
  unfold stepR
  split
  · rename_i hx
    dsimp only at hx ⊢
    have hsp := runLen_spec (chB px s w y s[y * w + x]!) w w x (by omega)
    generalize hn : runLen (chB px s w y s[y * w + x]!) w w x = n at hsp
    have hbx := hb (y * w + x)
    split
    · rename_i h0
      subst h0
      have hno : px[y * w + x]! = s[y * w + x]! := by
        refine Classical.byContradiction fun hne => hsp.2 ⟨hx, ?_⟩
        unfold chB
        simp only [Nat.add_zero, Bool.and_eq_true, beq_iff_eq, bne_iff_ne, ne_eq, true_and]
        exact hne
      refine ⟨h.len, h.rs, fun v a b hv ha => ?_⟩
      rw [h.at_ v a b hv ha]
      constructor
      · rintro ⟨k1, k2⟩; exact ⟨by omega, k2⟩
      · rintro ⟨k1, k2, k3⟩
        refine ⟨?_, k2, k3⟩
        by_cases e : b = y ∧ a = x
        · obtain ⟨rfl, rfl⟩ := e; exact absurd (hno.trans k2) k3
        · omega
    · rename_i h0
      have hv0 : (s[y * w + x]!).toNat < 256 := by omega
      have hrun : ∀ a, x ≤ a → a < x + n → a < w ∧ s[y * w + a]! = s[y * w + x]! ∧ px[y * w + a]! ≠ s[y * w + x]! := fun a h1 h2 => by
        have := hsp.1 (a - x) (by omega)
        rw [show x + (a - x) = a from by omega] at this
        unfold chB at this
        simp only [Bool.and_eq_true, beq_iff_eq, bne_iff_ne, ne_eq] at this
        exact ⟨this.1, this.2.1, this.2.2⟩
      refine ⟨by simp [h.len], fun v r hr => ?_, fun v a b hv ha => ?_⟩
      · dsimp only at hr
        rw [getD_set (by rw [h.len]; exact hv0)] at hr
        split at hr
        · rcases List.mem_append.1 hr with hr | hr
          · exact h.rs _ r hr
          · rw [List.mem_singleton] at hr; subst hr
            have := hrun (x + n - 1) (by omega) (by omega)
            dsimp only; omega
        · exact h.rs _ r hr
      · dsimp only
        rw [getD_set (by rw [h.len]; exact hv0)]
        split
        · rename_i e
          subst e
          rw [inL_append, h.at_ _ a b hv ha, inL_cons]
          have hi : ¬ inL [] (a : Int) (b : Int) := inL_nil
          have hh : (Rect.has ⟨x, y, n, 1⟩ a b) ↔ (x ≤ a ∧ a < x + n ∧ b = y) := by unfold Rect.has; dsimp only; omega
          rw [hh]
          have es : ((s[y * w + x]!).toNat : Int) = s[y * w + x]! := Int.toNat_of_nonneg hbx.1
          rw [es]
          constructor
          · rintro (⟨k1, k2⟩ | ⟨k1, k2, rfl⟩ | k)
            · exact ⟨by omega, k2⟩
            · have := hrun a k1 k2; exact ⟨by omega, this.2⟩
            · exact absurd k hi
          · rintro ⟨k1, k2⟩
            by_cases e : b < y ∨ b = y ∧ a < x
            · exact .inl ⟨e, k2⟩
            · exact .inr (.inl (by omega))
        · rename_i e
          rw [h.at_ v a b hv ha]
          constructor
          · rintro ⟨k1, k2⟩; exact ⟨by omega, k2⟩
          · rintro ⟨k1, k2, k3⟩
            refine ⟨?_, k2, k3⟩
            by_cases e2 : b = y ∧ x ≤ a
            · obtain ⟨rfl, e3⟩ := e2
              have := hrun a e3 (by omega)
              exact absurd (by rw [this.2.1] at k2; omega) e
            · omega
  · exact h
theorem RunI.it {px s : List Int} {w y x : Nat} {ls : List (List Rect)} (h : RunI px s w y x ls) (hb : ∀ i : Nat, 0 ≤ s[i]! ∧ s[i]! < 256) : ∀ k, RunI px s w y (itR px s w y k (x, ls)).1 (itR px s w y k (x, ls)).2
  | 0 => h
  | k + 1 => (RunI.it h hb k).step hb
theorem RunI.row {px s : List Int} {w y x : Nat} {ls : List (List Rect)} (h : RunI px s w y x ls) (hx : w ≤ x) : RunI px s w (y + 1) 0 ls :=
  ⟨h.len, fun v r hr => by have := h.rs v r hr; omega, fun v a b hv ha => by
    rw [h.at_ v a b hv ha]
    have : (b < y ∨ b = y ∧ a < x) ↔ (b < y + 1 ∨ b = y + 1 ∧ a < 0) := by omega
    rw [this]⟩
theorem runs_I (px s : List Int) (w : Nat) (hb : ∀ i : Nat, 0 ≤ s[i]! ∧ s[i]! < 256) : ∀ y, RunI px s w y 0 (runsTo px s w y)
  | 0 => by
    have e : ∀ v : Nat, (runsTo px s w 0)[v]! = [] := fun v => by
      unfold runsTo
      rw [List.getElem!_eq_getElem?_getD, List.getElem?_replicate]
      split <;> rfl
    refine ⟨runsTo_len _ _ _ _, fun v r hr => ?_, fun v a b hv ha => ?_⟩
    · rw [e v] at hr; cases hr
    · rw [e v]; exact ⟨fun h => absurd h inL_nil, fun h => by omega⟩
  | y + 1 => by
    unfold runsTo
    have h1 := (runs_I px s w hb y).it hb w
    have h2 := itR_le (px := px) (s := s) (w := w) (y := y) (k := w) (q := (0, runsTo px s w y))
    exact h1.row (by rw [Nat.min_self] at h2; omega)
theorem bang_bd {s : List Int} (hb : ∀ v ∈ s, 0 ≤ v ∧ v < 256) (i : Nat) : 0 ≤ s[i]! ∧ s[i]! < 256 := by
  by_cases h : i < s.length
  · exact hb _ (List.mem_iff_getElem?.2 ⟨i, getE h⟩)
  · rw [List.getElem!_eq_getElem?_getD, List.getElem?_eq_none (by omega)]; exact ⟨by decide, by decide⟩
theorem runs_in {px s : List Int} {w h : Nat} (hb : ∀ v ∈ s, 0 ≤ v ∧ v < 256) {v : Nat} (hv : v < 256) (x y : Int) : inL (runsTo px s w h)[v]! x y ↔ 0 ≤ x ∧ x < w ∧ 0 ≤ y ∧ y < h ∧ s[(y * w + x).toNat]! = v ∧ px[(y * w + x).toNat]! ≠ v := by
  have hI := runs_I px s w (bang_bd hb) h
  constructor
  · intro hi
    obtain ⟨r, hr, k1, k2, k3, k4⟩ := id hi
    have := hI.rs v r hr
    have hx : 0 ≤ x ∧ x < w := by omega
    have hy : 0 ≤ y := by omega
    obtain ⟨a, rfl⟩ := Int.eq_ofNat_of_zero_le hx.1
    obtain ⟨b, rfl⟩ := Int.eq_ofNat_of_zero_le hy
    rw [idx_nat]
    have := (hI.at_ v a b hv (by omega)).1 hi
    exact ⟨by omega, by omega, by omega, by omega, this.2⟩
  · rintro ⟨h1, h2, h3, h4, h5⟩
    obtain ⟨a, rfl⟩ := Int.eq_ofNat_of_zero_le h1
    obtain ⟨b, rfl⟩ := Int.eq_ofNat_of_zero_le h3
    rw [idx_nat] at h5
    exact (hI.at_ v a b hv (by omega)).2 ⟨by omega, h5⟩
theorem runs_rs {px s : List Int} {w h : Nat} (hb : ∀ v ∈ s, 0 ≤ v ∧ v < 256) {v : Nat} {r : Rect} (hr : r ∈ (runsTo px s w h)[v]!) : 0 ≤ r.X ∧ 0 < r.W ∧ r.X + r.W ≤ w ∧ 0 ≤ r.Y ∧ r.Y ≤ h ∧ r.H = 1 := (runs_I px s w (bang_bd hb) h).rs v r hr
end
section
open Go.RowKit Go.Sort
section
variable {P : Program} {H : Hp} {X0 : Nat → Prop} {M : Mp}
theorem came_row [Dr] {α : Type} [Inhabited α] {b B O nd : Nat} {xs ys tl : List T} {F : Array α} {enc : α → Value} {os : Array Obj} (hS : SimH H X0 M) (hB : M.β b = some (some (B, O))) (hc : lookH H b = some (xs ++ tl)) (hF : F.size = xs.length) (hl : ys.length = xs.length) (hy : ∀ i, i < ys.length → ys[i]? = some (.v (enc F[i]!))) :
    Evo X0 M ⟨M.β, M.X, grow (putRow enc (Sort.ahead M.w nd) B O F) os⟩ ∧ SimH (setH H b (.c (ys ++ tl))) X0 ⟨M.β, M.X, grow (putRow enc (Sort.ahead M.w nd) B O F) os⟩ := by
  have hcb := lookH_c.1 hc
  obtain ⟨a, e, fz, g1, g2, g3, g4, g5⟩ := hS.block hB hcb
  have hsz : O + (xs ++ tl).length ≤ a.size ∨ (xs ++ tl).length = 0 := by
    rcases Nat.eq_zero_or_pos (xs ++ tl).length with h0 | h0
    · exact .inr h0
    · exact .inl (g3.size h0)
  have ha : ∀ k, (putCells enc O F a)[k]? = if O ≤ k ∧ k < O + ys.length then (if k < a.size then some (enc F[k - O]!) else none) else a[k]? := fun k => by
    unfold putCells
    rw [Array.getElem?_mapIdx, hF, ← hl]
    by_cases hk : k < a.size
    · rw [Array.getElem?_eq_getElem hk]
      simp only [Option.map_some, hk, if_true]
      split <;> rfl
    · rw [Array.getElem?_eq_none (by omega)]
      simp [hk]
  have hr : RepA M (ys ++ tl) (putCells enc O F a) O := by
    refine repA_of fun i t ht => ?_
    rw [ha]
    by_cases hi : i < ys.length
    · rw [List.getElem?_append_left hi, hy i hi] at ht
      injection ht with ht; subst ht
      have hlt : O + i < a.size := by
        rcases hsz with h | h
        · rw [List.length_append, ← hl] at h; omega
        · rw [List.length_append, ← hl] at h; omega
      rw [if_pos ⟨by omega, by omega⟩, if_pos hlt, show O + i - O = i from by omega]
      exact ⟨_, rfl, rfl⟩
    · rw [if_neg (by omega)]
      refine g3.get i t ?_
      rw [List.getElem?_append_right (by omega)] at ht
      rw [List.getElem?_append_right (by omega), ← hl]; exact ht
  obtain ⟨E1, S1⟩ := hS.write (a' := putCells enc O F a) hB hcb g1 (by simp [putCells]) hr
  have hheap : (grow (putRow enc (Sort.ahead M.w nd) B O F) os).heap = (M.w.setRow B (putCells enc O F a)).heap ++ os := by
    show (M.w.heap.modify B (onCells (putCells enc O F))) ++ os = _
    congr 1
    apply Array.ext_getElem?
    intro k
    rw [Array.getElem?_modify]
    by_cases hk : B = k
    · subst hk
      rw [if_pos rfl, g1, setRow_heap _ _ _ _ _ _ g1]
      rfl
    · rw [if_neg hk, setRow_other _ _ _ _ (fun e => hk e.symm)]
  have hk2 : ∀ C, C < (atW M (M.w.setRow B (putCells enc O F a))).w.heap.size → (grow (putRow enc (Sort.ahead M.w nd) B O F) os).heap[C]? = (atW M (M.w.setRow B (putCells enc O F a))).w.heap[C]? := fun C hC => by
    rw [hheap]; exact Array.getElem?_append_left hC
  have E2 : Evo X0 (atW M (M.w.setRow B (putCells enc O F a))) ⟨M.β, M.X, grow (putRow enc (Sort.ahead M.w nd) B O F) os⟩ := by
    refine ⟨fun _ _ h => h, fun _ _ h => h, fun C hC _ => hk2 C hC, fun C s hs => ?_, rfl, ⟨rfl, fun _ => Nat.le_add_right _ _⟩, rfl, by show _ ≤ (grow _ os).heap.size; rw [hheap]; simp [atW]⟩
    have : C < (atW M (M.w.setRow B (putCells enc O F a))).w.heap.size := by
      rcases Nat.lt_or_ge C (atW M (M.w.setRow B (putCells enc O F a))).w.heap.size with h1 | h1
      · exact h1
      · simp [World.shape?, Array.getElem?_eq_none h1] at hs
    rw [← hs]
    exact shape_block (hk2 C this)
  exact ⟨E1.trans E2, SimH.set (lookH_lt hc) (Sim.world (M := atW M (M.w.setRow B (putCells enc O F a))) S1 E2 hk2)⟩
theorem holds_row [Dr] {α : Type} [Inhabited α] {b B O : Nat} {xs tl : List T} {F : Array α} {enc : α → Value} (hS : SimH H X0 M) (hB : M.β b = some (some (B, O))) (hc : lookH H b = some (xs ++ tl)) (hF : F.size = xs.length) (hx : ∀ i, i < xs.length → xs[i]? = some (.v (enc F[i]!))) : Holds enc M.w B O F ∧ B < M.w.heap.size := by
  obtain ⟨a, e, fz, g1, g2, g3, g4, g5⟩ := hS.block hB (lookH_c.1 hc)
  refine ⟨fun j hj => ?_, heap_lt g1⟩
  obtain ⟨u, h1, h2⟩ := g3.get j (.v (enc F[j]!)) (by rw [List.getElem?_append_left (by omega), hx j (by omega)])
  obtain rfl := h2
  have hlt := (Array.getElem?_eq_some_iff.1 h1).1
  refine ⟨by rw [cell_at g1]; exact h1, ?_⟩
  have := g2 (O + j) hlt
  simp only [World.frozen?, g1]
  simpa using this
theorem sort_ints [Dr] {f : FuncId} (hgo : goB P f = true) (hsort : ∀ (blk off cap : Nat) (zs : List Int) (w : World), Holds (Value.int .i64) w blk off zs.toArray → blk < w.heap.size → zs.length < 4611686018427387904 →
      Calls P f #[.slice (some ⟨blk, off, none⟩) zs.length cap] w fun e w' => e = .returned (.tuple #[]) ∧ ∃ n os, w' = grow (putRow (Value.int .i64) (Sort.ahead w n) blk off (zs.mergeSort fun x y => decide (x ≤ y)).toArray) os)
    {b : Nat} {c : Option Nat} {l : List Int} {tl : List T} (hl : l ≠ []) (hn : l.length < 4611686018427387904) (hc : lookH H b = some (encL cI l ++ tl)) :
    CallT P f [.slc b 0 l.length 1 c] H (fun t H' => t = .tup [] ∧ H' = setH H b (.c (encL cI (l.mergeSort fun x y => decide (x ≤ y)) ++ tl))) := by
  have henc : ∀ (m : List Int) (i : Nat), i < m.length → (encL cI m)[i]? = some (.v (Value.int .i64 m.toArray[i]!)) := fun m i hi => by
    have := encL_get cI m i 0 m[i]! (getE hi) (by decide)
    rw [show i * cI.sz + 0 = i from by show i * 1 + 0 = i; omega] at this
    rw [this]
    have e : m.toArray[i]! = m[i]! := by rw [getElem!_pos m i hi, getElem!_pos m.toArray i (by simpa using hi)]; simp
    rw [e]; rfl
  have hlen : ∀ m : List Int, (encL cI m).length = m.length := fun m => by rw [encL_len]; show m.length * 1 = _; omega
  refine ⟨hgo, fun X0 M us hS hr => ?_⟩
  obtain ⟨u, r, rfl, h1, rfl⟩ := hr
  rcases h1 with ⟨-, h0, -⟩ | ⟨B, O, k, hB, rfl, -⟩
  · exact absurd (List.eq_nil_of_length_eq_zero h0) hl
  obtain ⟨h3, h4⟩ := holds_row (F := l.toArray) hS hB hc (by simp [hlen]) (fun i hi => henc l i (by rw [hlen] at hi; exact hi))
  refine (hsort B (O + 0) k l M.w h3 h4 hn).mono ?_
  rintro e w' ⟨rfl, n, os, rfl⟩
  obtain ⟨E, S⟩ := came_row (nd := n) (os := os) (ys := encL cI (l.mergeSort fun x y => decide (x ≤ y))) (F := (l.mergeSort fun x y => decide (x ≤ y)).toArray) (enc := Value.int .i64) hS hB hc (by simp [hlen]) (by simp [hlen]) (fun i hi => henc _ i (by rw [hlen] at hi; exact hi))
  exact ⟨_, _, _, _, rfl, rfl, ⟨rfl, rfl⟩, E, S, [], rfl, rfl⟩
end
end
section
open Go.RowKit Go.Sort
def encR (r : Rect) : List Value := [.int .i64 r.X, .int .i64 r.Y, .int .i64 r.W, .int .i64 r.H]
theorem world_grown {W w' : World} (hh : ∀ B, B < W.heap.size → w'.heap[B]? = W.heap[B]?) (hz : W.heap.size ≤ w'.heap.size) (ho : w'.os = W.os) (ht : w'.tape = W.tape ∧ W.drawn ≤ w'.drawn) (hu : w'.output = W.output) : ∃ q os', w' = grow (W.drewN q) os' := by
  refine ⟨w'.drawn - W.drawn, w'.heap.extract W.heap.size w'.heap.size, ?_⟩
  obtain ⟨ht1, ht2⟩ := ht
  have h1 : w'.heap = W.heap ++ w'.heap.extract W.heap.size w'.heap.size := by
    apply Array.ext_getElem?
    intro k
    by_cases hk : k < W.heap.size
    · rw [Array.getElem?_append_left hk, hh k hk]
    · rw [Array.getElem?_append_right (by omega), Array.getElem?_extract]
      by_cases hk2 : k < w'.heap.size
      · rw [if_pos (by omega)]; congr 1; omega
      · rw [if_neg (by omega), Array.getElem?_eq_none (by omega)]
  cases w' with
  | mk heap tape drawn os output =>
    cases W with
    | mk heap' tape' drawn' os' output' =>
      simp only at h1 ho ht1 ht2 hu
      subst ho ht1 hu
      unfold grow World.drewN
      simp only [World.mk.injEq, true_and, and_true]
      exact ⟨h1, by omega⟩
section
variable {P : Program} {H : Hp}
theorem CallP.grown [Dr] (hd : Dr.on) {f : FuncId} {args : List T} {r : T} (h : CallP P f args r) (W : World) (us : List Value) (hG : Glo ⟨fun _ => none, fun _ => False, W⟩) (hr : RepL ⟨fun _ => none, fun _ => False, W⟩ args us) :
    Calls P f us.toArray W (fun e w' => ∃ u, e = .returned u ∧ Rep ⟨fun _ => none, fun _ => False, w'⟩ r u ∧ ∃ q os', w' = grow (W.drewN q) os') := by
  refine (h.run (fun _ => False) ⟨fun _ => none, fun _ => False, W⟩ us (fun _ h => h.elim) hG hr).mono ?_
  rintro e w' ⟨u, rfl, q1, q2, q3⟩
  exact ⟨u, rfl, q2, world_grown q3 q1.size q1.os ⟨q1.tape.1, q1.tape.2 hd⟩ q1.output⟩
theorem sort_rects [Dr] {f g : FuncId} (hgo : goB P f = true) (cf : Rect → Rect → Int) (hO : SWO (fun x y => decide (cf x y < 0))) (hcf : ∀ x y : Rect, @CallP strictD P g [rectT x, rectT y] (I64 (cf x y)))
    (hsort : ∀ (blk off cap : Nat) (d : Array Rect) (w : World), (∀ args w, (callFunc g args).run P w = .ok (.enter g args) w) → CmpLays P g #[] encR 4 cf blk off d.size w → HoldsK encR 4 w blk off d → blk < w.heap.size → d.size < 4611686018427387904 →
      Calls P f #[.slice (some ⟨blk, off, none⟩) d.size cap, .func (.func g) #[] #[]] w fun e w' => e = .returned (.tuple #[]) ∧ ∃ d' n os, PermIn 0 d.size d d' ∧ SortedIn (ltOf cf) 0 d.size d' ∧ w' = sortWorldK encR 4 w blk off n d' os)
    {b : Nat} {c : Option Nat} {l : List Rect} {tl : List T} (hl : l ≠ []) (hn : l.length < 4611686018427387904) (hc : lookH H b = some (encL cR l ++ tl)) :
    CallT P f [.slc b 0 l.length 4 c, .clo g [] []] H (fun t H' => t = .tup [] ∧ ∃ l' : List Rect, l'.Perm l ∧ (∀ i j, i < j → j < l'.length → 0 ≤ cf l'[j]! l'[i]!) ∧ H' = setH H b (.c (encL cR l' ++ tl))) := by
  have hgg : goB P g = true := (hcf default default).2.2.1
  have henc : ∀ (m : List Rect) (i : Nat), i < (encL cR m).length → (encL cR m)[i]? = some (.v (id (flatK encR 4 m.toArray)[i]!)) := fun m i hi => by
    have hsz : (encL cR m).length = m.length * 4 := encL_len cR m
    have hm : i / 4 < m.length := by omega
    have := encL_get cR m (i / 4) (i % 4) m[i / 4]! (getE hm) (by show i % 4 < 4; omega)
    rw [show i / 4 * cR.sz + i % 4 = i from by show i / 4 * 4 + i % 4 = i; omega] at this
    rw [this, id, get_flatK _ _ _ _ (by simp; omega)]
    have e : m.toArray[i / 4]! = m[i / 4]! := by rw [getElem!_pos m _ hm, getElem!_pos m.toArray _ (by simpa using hm)]; simp
    rw [e]
    generalize m[i / 4]! = r
    have h4 : i % 4 = 0 ∨ i % 4 = 1 ∨ i % 4 = 2 ∨ i % 4 = 3 := by omega
    rcases h4 with h | h | h | h <;> rw [h] <;> rfl
  have hlen : ∀ m : List Rect, (encL cR m).length = m.length * 4 := fun m => encL_len cR m
  refine ⟨hgo, fun X0 M us hS hr => ?_⟩
  obtain ⟨u, r, rfl, h1, u2, r2, rfl, h2, rfl⟩ := hr
  obtain ⟨fs, ws, rfl, h5, h6⟩ := h2
  obtain rfl := h5
  obtain rfl := h6
  rcases h1 with ⟨-, h0, -⟩ | ⟨B, O, k, hB, rfl, -⟩
  · exact absurd (List.eq_nil_of_length_eq_zero h0) hl
  obtain ⟨h3, h4⟩ := holds_row (enc := id) (F := flatK encR 4 l.toArray) hS hB hc (by simp [hlen]) (fun i hi => henc l i hi)
  have hcmp : CmpLays P g #[] encR 4 cf B O l.toArray.size M.w := by
    intro m os dk hdk x y
    refine (@CallP.grown P strictD trivial _ _ _ (hcf x y) (sortWorldK encR 4 M.w B O m dk os) [.agg (encR x).toArray, .agg (encR y).toArray] (fun g a h => by cases h) ⟨_, _, rfl, ⟨_, rfl, repL_v (encR x)⟩, _, _, rfl, ⟨_, rfl, repL_v (encR y)⟩, rfl⟩).mono ?_
    rintro e w' ⟨u, rfl, q2, q3⟩
    obtain rfl := q2
    exact ⟨rfl, q3⟩
  have := hsort B (O + 0) k l.toArray M.w (fun args w => run_goFunc g args w hgg) hcmp h3 h4 (by simpa using hn)
  simp only [List.size_toArray] at this
  refine this.mono ?_
  rintro e w' ⟨rfl, d', n, os, hp, hs, rfl⟩
  have hpl : d'.toList.Perm l := by
    have h7 := hp.2.2
    have hz : d'.size = l.length := by simpa using hp.1
    rw [show d'.extract 0 l.length = d' from by rw [← hz]; simp, show l.toArray.extract 0 l.length = l.toArray from by simp] at h7
    simpa using h7
  have hpz : d'.toList.length = l.length := hpl.length_eq
  obtain ⟨E, S⟩ := came_row (nd := n) (os := os) (ys := encL cR d'.toList) (F := flatK encR 4 d') (enc := id) hS hB hc (by rw [size_flatK, hlen, ← Array.length_toList, hpz]) (by rw [hlen, hlen, hpz]) (fun i hi => by have := henc d'.toList i hi; simpa using this)
  refine ⟨_, _, _, _, rfl, rfl, ⟨rfl, d'.toList, hpl, fun i j hij hj => ?_, rfl⟩, E, S, [], rfl, rfl⟩
  have := hs i j (Nat.zero_le _) hij (by rw [hpz] at hj; simpa using hj)
  unfold ltOf at this
  rw [decide_eq_false_iff_not] at this
  have e1 : ∀ q, q < d'.size → d'.toList[q]! = d'[q]! := fun q hq => by rw [getElem!_pos d' q hq, getElem!_pos d'.toList q (by simpa using hq)]; simp
  rw [e1 j (by simpa using hj), e1 i (by simp at hj; omega)]
  omega
end
end
section
open Go.RowKit
set_option maxRecDepth 10000
theorem len64_0 [Dr] : CallP Try.prog 78 [.v (.int .u64 0)] (I64 0) := by
  refine CallP.intro2 au_pu au_pu ?_
  refine CallT.intro tab_ok Try.func78 rfl (by kernel_rfl) (Nat.le_of_ble_eq_true rfl) ?_
  refine VC.reg tab_ok [] rfl ?_
  refine VX.meek rfl ?_
  refine VX.nil ?_
  refine VC.seq ?_
  refine VC.reg tab_ok [] rfl ?_
  iterate 2 refine VX.meek rfl ?_
  refine VX.nil ?_
  refine VC.condF rfl ?_
  refine VC.skip ?_
  refine VC.seq ?_
  refine VC.reg tab_ok [] rfl ?_
  iterate 2 refine VX.meek rfl ?_
  refine VX.nil ?_
  refine VC.condF rfl ?_
  refine VC.skip ?_
  refine VC.seq ?_
  refine VC.reg tab_ok [] rfl ?_
  iterate 2 refine VX.meek rfl ?_
  refine VX.nil ?_
  refine VC.condF rfl ?_
  refine VC.skip ?_
  refine VC.reg tab_ok [] rfl ?_
  iterate 2 refine VX.meek rfl ?_
  first | refine VX.meek rfl ?_ | refine VX.bytes tab_ok rfl rfl rfl rfl rfl rfl rfl rfl (by first | omega | (dsimp only; omega) | assumption) ?_
  first | refine VX.idxS rfl rfl rfl rfl rfl (by assumption) ?_ | refine VX.meek rfl ?_
  first | refine VX.meek rfl ?_ | refine VX.bytes tab_ok rfl rfl rfl rfl rfl rfl rfl rfl (by first | omega | (dsimp only; omega) | assumption) ?_
  first | refine VX.add rfl rfl (by omega) ?_ | refine VX.meek rfl ?_
  refine VX.meek rfl ?_
  refine VX.nil ?_
  refine VC.ret ?_
  exact ⟨trivial, _, rfl, Cv.eq (by first | rfl | (simp [*]; done)) rfl⟩
theorem len_0 [Dr] : CallP Try.prog 59 [.v (.int .u64 0)] (I64 0) := by
  refine CallP.intro2 au_pu au_pu ?_
  refine CallT.intro tab_ok Try.func59 rfl (by kernel_rfl) (Nat.le_of_ble_eq_true rfl) ?_
  refine VC.reg tab_ok [] rfl ?_
  refine VX.meek rfl ?_
  refine VX.nil ?_
  refine VC.seq ?_
  refine VC.condF rfl ?_
  refine VC.skip ?_
  refine VC.reg tab_ok [] rfl ?_
  refine VX.meek rfl ?_
  refine VX.callP0 rfl rfl rfl (len64_0) ?_
  refine VX.meek rfl ?_
  refine VX.nil ?_
  refine VC.ret ?_
  exact ⟨trivial, _, rfl, Cv.eq (by first | rfl | (simp [*]; done)) rfl⟩
theorem insI_0 [Dr] (cs : List T) (c : Option Nat) (hp : T.pureL cs = true) : CallT Try.prog 85 [.slc 0 0 0 1 c, I64 0, I64 0] [.c cs] (fun t H' => t = .tup [] ∧ H' = [.c cs]) := by
  refine CallT.intro tab_ok Try.func85 rfl (by kernel_rfl) (Nat.le_of_ble_eq_true rfl) ?_
  refine VC.reg tab_ok [] rfl ?_
  refine VX.meek rfl ?_
  first | refine VX.add rfl rfl (by omega) ?_ | refine VX.meek rfl ?_
  refine VX.meek rfl ?_
  refine VX.nil ?_
  refine VC.block ?_
  refine VC.loopS (σ := Unit) (fun _ => 0) (fun _ => True) (fun _ => [(6, I64 1), (2, I64 0)]) (fun _ => [.c cs]) [0, 1] rfl (()) ?_ ?_ ?_
  · refine ⟨[some 0], rfl, by first | trivial | decide, by first | rfl | (simp only [noO, Bool.and_true, Bool.and_eq_true]; first | assumption | (refine ⟨?_, ?_⟩ <;> assumption)) | (simp only [noO, *, Bool.and_true, Bool.true_and, Bool.and_self]; done), ?_, ?_⟩ <;> (repeat' first | exact trivial | exact CvB_n | exact CvB_d | exact CvB_o rfl | refine CvE_app ?_ ?_ | refine CvE_cons rfl ?_ ?_ | refine CvH_cons ?_ ?_ | refine CvB_c rfl ?_ | fail) <;> first | exact au_v | (exact CvL.pure hp)
  · trivial
  rintro _ _
  refine VC.seq ?_
  refine VC.reg tab_ok [] rfl ?_
  iterate 3 refine VX.meek rfl ?_
  refine VX.nil ?_
  refine VC.condF rfl ?_
  refine VC.exit ?_
  exact ⟨trivial, _, rfl, rfl, rfl⟩
theorem pdqI_0 [Dr] (cs : List T) (c : Option Nat) (hp : T.pureL cs = true) : CallT Try.prog 79 [.slc 0 0 0 1 c, I64 0, I64 0, I64 0] [.c cs] (fun t H' => t = .tup [] ∧ H' = [.c cs]) := by
  refine CallT.intro tab_ok Try.func79 rfl (by kernel_rfl) (Nat.le_of_ble_eq_true rfl) ?_
  refine VC.reg tab_ok [] rfl ?_
  refine VX.meek rfl ?_
  refine VX.nil ?_
  refine VC.reg tab_ok [] rfl ?_
  refine VX.meek rfl ?_
  refine VX.nil ?_
  refine VC.block ?_
  refine VC.loopS (σ := Unit) (fun _ => 0) (fun _ => True) (fun _ => [(0, .slc 0 0 0 1 c), (1, I64 0), (2, I64 0)]) (fun _ => [.c cs]) [] rfl (()) ?_ ?_ ?_
  · refine ⟨[some 0], rfl, by first | trivial | decide, by first | rfl | (simp only [noO, Bool.and_true, Bool.and_eq_true]; first | assumption | (refine ⟨?_, ?_⟩ <;> assumption)) | (simp only [noO, *, Bool.and_true, Bool.true_and, Bool.and_self]; done), ?_, ?_⟩ <;> (repeat' first | exact trivial | exact CvB_n | exact CvB_d | exact CvB_o rfl | refine CvE_app ?_ ?_ | refine CvE_cons rfl ?_ ?_ | refine CvH_cons ?_ ?_ | refine CvB_c rfl ?_ | fail) <;> first | exact au_v | (exact CvL.pure hp)
  · trivial
  rintro _ _
  refine VC.block ?_
  refine VC.reg tab_ok [] rfl ?_
  iterate 2 refine VX.meek rfl ?_
  first | refine VX.sub rfl rfl (by omega) ?_ | refine VX.meek rfl ?_
  refine VX.meek rfl ?_
  refine VX.nil ?_
  refine VC.seq ?_
  refine VC.reg tab_ok [] rfl ?_
  iterate 2 refine VX.meek rfl ?_
  refine VX.nil ?_
  refine VC.condT rfl ?_
  refine VC.reg tab_ok [] rfl ?_
  iterate 3 refine VX.meek rfl ?_
  refine VX.callT rfl rfl ((insI_0 cs c hp).mono ?_); rintro _ _ ⟨rfl, rfl⟩
  refine VX.nil ?_
  refine VC.ret ?_
  exact ⟨trivial, _, rfl, rfl, rfl⟩
theorem sortI_0 [Dr] (cs : List T) (c : Option Nat) (hp : T.pureL cs = true) : CallT Try.prog 61 [.slc 0 0 0 1 c] [.c cs] (fun t H' => t = .tup [] ∧ H' = [.c cs]) := by
  refine CallT.intro tab_ok Try.func61 rfl (by kernel_rfl) (Nat.le_of_ble_eq_true rfl) ?_
  refine VC.reg tab_ok [] rfl ?_
  iterate 3 refine VX.meek rfl ?_
  refine VX.nil ?_
  refine VC.regN tab_ok [] rfl ?_
  iterate 3 refine VX.meek rfl ?_
  first | refine VX.meek rfl ?_ | refine VX.bytes tab_ok rfl rfl rfl rfl rfl rfl rfl rfl (by first | omega | (dsimp only; omega) | assumption) ?_
  refine VX.callP0 rfl rfl rfl (len_0) ?_
  refine VX.callT rfl rfl ((pdqI_0 cs c hp).mono ?_); rintro _ _ ⟨rfl, rfl⟩
  refine VX.nil ?_
  exact ⟨trivial, _, rfl, rfl, rfl⟩
end
section
open Go.RowKit Go.Sort
set_option maxRecDepth 10000
def orI : List Int → Int
  | [] => 0
  | n :: l => if n ≠ 0 then n else orI l
theorem orI_drop : ∀ (l : List Int) (k : Nat), (∀ i, i < k → l[i]! = 0) → k ≤ l.length → orI (l.drop k) = orI l
  | l, 0, _, _ => rfl
  | [], k + 1, _, h => by simp at h
  | n :: l, k + 1, h, hk => by
    have h0 := h 0 (by omega)
    simp at h0
    rw [List.drop_succ_cons, orI_drop l k (fun i hi => by have := h (i + 1) (by omega); simpa using this) (by simpa using hk)]
    simp [orI, h0]
theorem orI_at {l : List Int} {k : Nat} (h : ∀ i, i < k → l[i]! = 0) (hk : k < l.length) (hn : l[k]! ≠ 0) : orI l = l[k]! := by
  rw [← orI_drop l k h (by omega), List.drop_eq_getElem_cons hk]
  rw [getElem!_pos l k hk] at hn ⊢
  simp [orI, hn]
theorem or_p [Dr] (l : List Int) (hl : l.length ≤ 1000000) : CallP Try.prog 42 [.islc (encL cI l) l.length none] (I64 (orI l)) := by
  refine CallP.intro2 au_pu au_pu ?_
  refine CallT.intro tab_ok Try.func42 rfl (by kernel_rfl) (Nat.le_of_ble_eq_true rfl) ?_
  refine VC.reg tab_ok [] rfl ?_
  refine VX.meek rfl ?_
  refine VX.nil ?_
  refine VC.reg tab_ok [] rfl ?_
  refine VX.meek rfl ?_
  refine VX.nil ?_
  refine VC.seq ?_
  refine VC.reg tab_ok [] rfl ?_
  iterate 3 refine VX.meek rfl ?_
  refine VX.nil ?_
  refine VC.block ?_
  refine VC.loopS (σ := Nat) (fun k => l.length - k) (fun k => k ≤ l.length ∧ ∀ i, i < k → l[i]! = 0) (fun k => [(8, I64 k)]) (fun _ => []) [3, 6, 7] rfl (0) ?_ ?_ ?_
  · refine ⟨[], rfl, by first | trivial | decide, by first | rfl | (simp only [noO, Bool.and_true, Bool.and_eq_true]; first | assumption | (refine ⟨?_, ?_⟩ <;> assumption)) | (simp only [noO, *, Bool.and_true, Bool.true_and, Bool.and_self]; done), ?_, ?_⟩ <;> (repeat' first | exact trivial | exact CvB_n | exact CvB_d | exact CvB_o rfl | refine CvE_app ?_ ?_ | refine CvE_cons rfl ?_ ?_ | refine CvH_cons ?_ ?_ | refine CvB_c rfl ?_ | fail) <;> first | exact au_v | (skip)
  · exact ⟨by omega, fun i hi => by omega⟩
  rintro k ⟨hk, hz⟩
  refine VC.reg tab_ok [] rfl ?_
  refine VX.meek rfl ?_
  refine VX.nil ?_
  refine VC.seq ?_
  refine VC.cond rfl (fun hc0 => ?_) (fun hc0 => ?_)
  · (try simp only [au_std] at hc0)
    refine VC.skip ?_
    refine VC.seq ?_
    refine VC.block ?_
    refine VC.reg tab_ok [] rfl ?_
    first | refine VX.idxI rfl rfl rfl rfl rfl rfl (by omega) ?_ | refine VX.idxO0 rfl rfl rfl rfl rfl rfl rfl (by omega) ?_ | refine VX.idxO0 rfl rfl rfl rfl rfl rfl au_z (by omega) ?_ | refine VX.idxO rfl rfl rfl rfl rfl rfl rfl (by omega) ?_ | refine VX.idxI rfl rfl rfl rfl rfl au_z (by omega) ?_ | refine VX.idxO rfl rfl rfl rfl rfl rfl au_z (by omega) ?_ | refine VX.meek rfl ?_
    first | refine VX.meek rfl ?_ | refine VX.loadI rfl rfl au_l ?_ | refine VX.loadP rfl rfl rfl au_l ?_
    refine VX.meek rfl ?_
    refine VX.nil ?_
    refine VC.reg tab_ok [] rfl ?_
    iterate 3 refine VX.meek rfl ?_
    refine VX.nil ?_
    refine VC.cond rfl (fun hc1 => ?_) (fun hc1 => ?_)
    · (try simp only [au_std] at hc1)
      refine VC.reg tab_ok [] rfl ?_
      iterate 2 refine VX.meek rfl ?_
      refine VX.nil ?_
      refine VC.ret ?_
      exact ⟨trivial, _, rfl, Cv.eq (congrArg I64 (orI_at hz (by omega) hc1).symm) rfl⟩
    · (try simp only [au_std] at hc1)
      refine VC.skip ?_
      refine VC.regN tab_ok [] rfl ?_
      first | refine VX.add rfl rfl (by omega) ?_ | refine VX.meek rfl ?_
      refine VX.meek rfl ?_
      refine VX.nil ?_
      refine ⟨k + 1, by (try dsimp only); omega, ?_, (by refine ⟨[], rfl, by first | trivial | decide, by first | rfl | (simp only [noO, Bool.and_true, Bool.and_eq_true]; first | assumption | (refine ⟨?_, ?_⟩ <;> assumption)) | (simp only [noO, *, Bool.and_true, Bool.true_and, Bool.and_self]; done), ?_, ?_⟩ <;> (repeat' first | exact trivial | exact CvB_n | exact CvB_d | exact CvB_o rfl | refine CvE_app ?_ ?_ | refine CvE_cons rfl ?_ ?_ | refine CvH_cons ?_ ?_ | refine CvB_c rfl ?_ | fail) <;> first | exact au_v | (skip))⟩
      exact ⟨by omega, fun i hi => if h : i < k then hz i h else by (obtain rfl : i = k := by omega); exact hc1⟩
  · (try simp only [au_std] at hc0)
    refine VC.exit ?_
    refine VC.reg tab_ok [] rfl ?_
    iterate 2 refine VX.meek rfl ?_
    refine VX.nil ?_
    refine VC.ret ?_
    exact ⟨trivial, _, rfl, Cv.eq (congrArg I64 (by have h := orI_drop l k hz hk; rw [List.drop_of_length_le (by omega)] at h; exact h)) rfl⟩
def cfYX (a b : Rect) : Int := orI [cmpI a.Y b.Y, cmpI a.X b.X]
def cfX (a b : Rect) : Int := cmpI a.X b.X
theorem of1_p [Dr] (a b : Rect) : CallP Try.prog 41 [rectT a, rectT b] (I64 (cfYX a b)) := by
  refine CallP.intro2 au_pu au_pu ?_
  refine CallT.intro tab_ok Try.func41 rfl (by kernel_rfl) (Nat.le_of_ble_eq_true rfl) ?_
  refine VC.reg tab_ok [2, 3] rfl ?_
  iterate 2 refine VX.newI rfl rfl ?_
  refine VX.meek rfl ?_
  refine VX.nil ?_
  refine VC.drw tab_ok [15] [_, _, _, _, _, _, _, _, _, _, _, _, _] rfl (by kernel_rfl) (by kernel_rfl) ?_
  refine VX.meek rfl ?_
  first | refine VX.meek rfl ?_ | refine VX.loadI rfl rfl au_l ?_ | refine VX.loadP rfl rfl rfl au_l ?_
  refine VX.meek rfl ?_
  first | refine VX.meek rfl ?_ | refine VX.loadI rfl rfl au_l ?_ | refine VX.loadP rfl rfl rfl au_l ?_
  refine VX.callP0 rfl rfl rfl (compare_p _ _) ?_
  refine VX.meek rfl ?_
  first | refine VX.meek rfl ?_ | refine VX.loadI rfl rfl au_l ?_ | refine VX.loadP rfl rfl rfl au_l ?_
  refine VX.meek rfl ?_
  first | refine VX.meek rfl ?_ | refine VX.loadI rfl rfl au_l ?_ | refine VX.loadP rfl rfl rfl au_l ?_
  refine VX.callP0 rfl rfl rfl (compare_p _ _) ?_
  refine VX.newI rfl rfl ?_
  refine VX.callP rfl rfl (or_p [cmpI a.Y b.Y, cmpI a.X b.X] (by simp)) au_wk au_pu ?_
  refine VX.meek rfl ?_
  iterate 2 refine VX.nil ?_
  refine VC.ret ?_
  exact ⟨trivial, _, rfl, Cv.eq (by first | rfl | (simp [*]; done)) rfl⟩
theorem of3_p [Dr] (a b : Rect) : CallP Try.prog 47 [rectT a, rectT b] (I64 (cfX a b)) := by
  refine CallP.intro2 au_pu au_pu ?_
  refine CallT.intro tab_ok Try.func47 rfl (by kernel_rfl) (Nat.le_of_ble_eq_true rfl) ?_
  refine VC.reg tab_ok [2, 3] rfl ?_
  iterate 2 refine VX.newI rfl rfl ?_
  refine VX.meek rfl ?_
  refine VX.nil ?_
  refine VC.reg tab_ok [] rfl ?_
  refine VX.meek rfl ?_
  first | refine VX.meek rfl ?_ | refine VX.loadI rfl rfl au_l ?_ | refine VX.loadP rfl rfl rfl au_l ?_
  refine VX.meek rfl ?_
  first | refine VX.meek rfl ?_ | refine VX.loadI rfl rfl au_l ?_ | refine VX.loadP rfl rfl rfl au_l ?_
  refine VX.callP0 rfl rfl rfl (compare_p _ _) ?_
  refine VX.meek rfl ?_
  refine VX.nil ?_
  refine VC.ret ?_
  exact ⟨trivial, _, rfl, Cv.eq (by first | rfl | (simp [*]; done)) rfl⟩
theorem cmpI_neg (x y : Int) : cmpI x y < 0 ↔ x < y := by unfold cmpI; split <;> (try split) <;> omega
theorem cmpI_zero (x y : Int) : cmpI x y = 0 ↔ x = y := by unfold cmpI; split <;> (try split) <;> omega
theorem cfYX_neg (a b : Rect) : cfYX a b < 0 ↔ a.Y < b.Y ∨ (a.Y = b.Y ∧ a.X < b.X) := by
  unfold cfYX orI orI orI
  by_cases h : cmpI a.Y b.Y = 0
  · rw [if_neg (by simpa using h)]
    have h' := (cmpI_zero _ _).1 h
    split
    · rw [cmpI_neg]; omega
    · rename_i h2
      have := (cmpI_zero _ _).1 (Classical.not_not.1 h2)
      omega
  · rw [if_pos h, cmpI_neg]
    have : a.Y ≠ b.Y := fun e => h ((cmpI_zero _ _).2 e)
    omega
theorem swoYX : SWO (fun x y => decide (cfYX x y < 0)) where
  irrefl x := by rw [decide_eq_false_iff_not, cfYX_neg]; omega
  trans x y z h1 h2 := by rw [decide_eq_true_eq, cfYX_neg] at *; omega
  ntrans x y z h1 h2 := by rw [decide_eq_false_iff_not, cfYX_neg] at *; omega
theorem swoX : SWO (fun x y => decide (cfX x y < 0)) where
  irrefl x := by rw [decide_eq_false_iff_not, cfX, cmpI_neg]; omega
  trans x y z h1 h2 := by rw [decide_eq_true_eq, cfX, cmpI_neg] at *; omega
  ntrans x y z h1 h2 := by rw [decide_eq_false_iff_not, cfX, cmpI_neg] at *; omega
theorem sortFn_any (cf : Rect → Rect → Int) (hO : SWO (fun x y => decide (cf x y < 0))) (g : FuncId) (blk off cap : Nat) (d : Array Rect) (w : World) (eg : ∀ args w, (callFunc g args).run Try.prog w = .ok (.enter g args) w) (hcmp : CmpLays Try.prog g #[] encR 4 cf blk off d.size w) (hH : HoldsK encR 4 w blk off d) (hblk : blk < w.heap.size) (hsz : d.size < 4611686018427387904) :
    Calls Try.prog 40 #[.slice (some ⟨blk, off, none⟩) d.size cap, .func (.func g) #[] #[]] w fun e w' => e = .returned (.tuple #[]) ∧ ∃ d' n os, PermIn 0 d.size d d' ∧ SortedIn (ltOf cf) 0 d.size d' ∧ w' = sortWorldK encR 4 w blk off n d' os :=
  AnyQ.slices_SortFunc Try.sortFn 4 (fun w => ty_81.agg_ w) (fun w => ty_81.size_ w) encR (fun _ => rfl) (fun x v hv => by simp [encR] at hv; rcases hv with rfl | rfl | rfl | rfl <;> rfl) cf hO g #[] blk off cap d w eg hcmp hH hblk hsz
theorem sortYX_t [Dr] {H : Hp} {b : Nat} {c : Option Nat} {l : List Rect} {tl : List T} (hl : l ≠ []) (hn : l.length < 4611686018427387904) (hc : lookH H b = some (encL cR l ++ tl)) :
    CallT Try.prog 40 [.slc b 0 l.length 4 c, .clo 41 [] []] H (fun t H' => t = .tup [] ∧ ∃ l' : List Rect, l'.Perm l ∧ (∀ i j, i < j → j < l'.length → 0 ≤ cfYX l'[j]! l'[i]!) ∧ H' = setH H b (.c (encL cR l' ++ tl))) :=
  sort_rects (by kernel_rfl) cfYX swoYX (fun x y => @of1_p strictD x y) (fun blk off cap d w => sortFn_any cfYX swoYX _ blk off cap d w) hl hn hc
theorem sortX_t [Dr] {H : Hp} {b : Nat} {c : Option Nat} {l : List Rect} {tl : List T} (hl : l ≠ []) (hn : l.length < 4611686018427387904) (hc : lookH H b = some (encL cR l ++ tl)) :
    CallT Try.prog 40 [.slc b 0 l.length 4 c, .clo 47 [] []] H (fun t H' => t = .tup [] ∧ ∃ l' : List Rect, l'.Perm l ∧ (∀ i j, i < j → j < l'.length → 0 ≤ cfX l'[j]! l'[i]!) ∧ H' = setH H b (.c (encL cR l' ++ tl))) :=
  sort_rects (by kernel_rfl) cfX swoX (fun x y => @of3_p strictD x y) (fun blk off cap d w => sortFn_any cfX swoX _ blk off cap d w) hl hn hc
theorem sortI_t [Dr] {H : Hp} {b : Nat} {c : Option Nat} {l : List Int} {tl : List T} (hl : l ≠ []) (hn : l.length < 4611686018427387904) (hc : lookH H b = some (encL cI l ++ tl)) :
    CallT Try.prog 61 [.slc b 0 l.length 1 c] H (fun t H' => t = .tup [] ∧ H' = setH H b (.c (encL cI (l.mergeSort fun x y => decide (x ≤ y)) ++ tl))) :=
  sort_ints (by kernel_rfl) (fun blk off cap zs w h1 h2 h3 => Any.slices_Sort_int Try.lays189 blk off cap zs w h1 h2 h3) hl hn hc
def alikeR (a b : Rect) : Bool := decide (a.X = b.X ∧ a.W = b.W ∧ a.Y + a.H = b.Y)
def rok (r : Rect) : Prop := -1048576 ≤ r.X ∧ 0 < r.W ∧ r.X + r.W ≤ 1048576 ∧ -1048576 ≤ r.Y ∧ 0 < r.H ∧ r.Y + r.H ≤ 1048576
theorem alike1_p [Dr] (a b : Rect) (ha : rok a) : CallP Try.prog 66 [rectT a, rectT b] (BL (alikeR a b)) := by
  unfold rok at ha
  refine CallP.intro2 au_pu au_pu ?_
  refine CallT.intro tab_ok Try.func66 rfl (by kernel_rfl) (Nat.le_of_ble_eq_true rfl) ?_
  refine VC.reg tab_ok [2, 3] rfl ?_
  iterate 2 refine VX.newI rfl rfl ?_
  refine VX.meek rfl ?_
  refine VX.nil ?_
  refine VC.reg tab_ok [] rfl ?_
  refine VX.meek rfl ?_
  first | refine VX.meek rfl ?_ | refine VX.loadI rfl rfl au_l ?_ | refine VX.loadP rfl rfl rfl au_l ?_
  refine VX.meek rfl ?_
  first | refine VX.meek rfl ?_ | refine VX.loadI rfl rfl au_l ?_ | refine VX.loadP rfl rfl rfl au_l ?_
  iterate 2 refine VX.meek rfl ?_
  refine' VX.merge (d := 16) [_, _, _, _, _, _] rfl ?_ rfl ?_
  rotate_left
  · refine VX.guard rfl rfl (fun hb1_5 => ?_) (fun hb1_5 => ?_)
    · have ghb1_5 := hb1_5
      try simp only [au_std, Bool.not_true, Bool.not_false] at ghb1_5
      refine VX.meek rfl ?_
      refine VX.guardT rfl rfl hb1_5 ?_
      first | refine VX.meek rfl ?_ | refine VX.loadI rfl rfl au_l ?_ | refine VX.loadP rfl rfl rfl au_l ?_
      refine VX.guardT rfl rfl hb1_5 ?_
      refine VX.meek rfl ?_
      refine VX.guardT rfl rfl hb1_5 ?_
      first | refine VX.meek rfl ?_ | refine VX.loadI rfl rfl au_l ?_ | refine VX.loadP rfl rfl rfl au_l ?_
      refine VX.guardT rfl rfl hb1_5 ?_
      refine VX.meek rfl ?_
      refine VX.pickA rfl (fun _ => rfl) ?_
      exact VX.nil ⟨rfl, rfl⟩
    · refine VX.guardF rfl rfl hb1_5 ?_
      iterate 3 refine VX.guardF rfl rfl hb1_5 ?_
      exact VX.pickA rfl (fun h => absurd (h.symm.trans hb1_5) (by decide)) (VX.nil ⟨rfl, rfl⟩)
  refine VX.meek rfl ?_
  refine' VX.merge (d := 26) [_, _, _, _, _, _, _, _, _] rfl ?_ rfl ?_
  rotate_left
  · refine VX.guard rfl rfl (fun hb1_12 => ?_) (fun hb1_12 => ?_)
    · have ghb1_12 := hb1_12
      try simp only [au_std, Bool.not_true, Bool.not_false] at ghb1_12
      refine VX.meek rfl ?_
      refine VX.guardT rfl rfl hb1_12 ?_
      first | refine VX.meek rfl ?_ | refine VX.loadI rfl rfl au_l ?_ | refine VX.loadP rfl rfl rfl au_l ?_
      refine VX.guardT rfl rfl hb1_12 ?_
      refine VX.meek rfl ?_
      refine VX.guardT rfl rfl hb1_12 ?_
      first | refine VX.meek rfl ?_ | refine VX.loadI rfl rfl au_l ?_ | refine VX.loadP rfl rfl rfl au_l ?_
      refine VX.guardT rfl rfl hb1_12 ?_
      first | refine VX.add rfl rfl (by omega) ?_ | refine VX.meek rfl ?_
      refine VX.guardT rfl rfl hb1_12 ?_
      refine VX.meek rfl ?_
      refine VX.guardT rfl rfl hb1_12 ?_
      first | refine VX.meek rfl ?_ | refine VX.loadI rfl rfl au_l ?_ | refine VX.loadP rfl rfl rfl au_l ?_
      refine VX.guardT rfl rfl hb1_12 ?_
      refine VX.meek rfl ?_
      refine VX.pickA rfl (fun _ => rfl) ?_
      exact VX.nil ⟨rfl, rfl⟩
    · refine VX.guardF rfl rfl hb1_12 ?_
      iterate 6 refine VX.guardF rfl rfl hb1_12 ?_
      exact VX.pickA rfl (fun h => absurd (h.symm.trans hb1_12) (by decide)) (VX.nil ⟨rfl, rfl⟩)
  refine VX.meek rfl ?_
  refine VX.nil ?_
  refine VC.ret ?_
  exact ⟨trivial, _, rfl, Cv.eq (congrArg BL (by unfold alikeR; rw [Bool.eq_iff_iff]; simp [and_assoc])) rfl⟩
theorem equalF_p [Dr] (a b : List Rect) (ha : ∀ r ∈ a, rok r) (hl : a.length ≤ 4398046511104) : CallP Try.prog 65 [.islc (encL cR a) a.length none, .islc (encL cR b) b.length none, .clo 66 [] []] (BL (decide (a.length = b.length ∧ ∀ i, i < a.length → alikeR a[i]! b[i]! = true))) := by
  refine CallP.intro2 au_pu au_pu ?_
  refine CallT.intro tab_ok Try.func65 rfl (by kernel_rfl) (Nat.le_of_ble_eq_true rfl) ?_
  refine VC.reg tab_ok [] rfl ?_
  refine VX.meek rfl ?_
  refine VX.nil ?_
  refine VC.seq ?_
  refine VC.reg tab_ok [] rfl ?_
  iterate 5 refine VX.meek rfl ?_
  refine VX.nil ?_
  refine VC.cond rfl (fun hc0 => ?_) (fun hc0 => ?_)
  · (try simp only [au_std] at hc0)
    refine VC.reg tab_ok [] rfl ?_
    refine VX.meek rfl ?_
    refine VX.nil ?_
    refine VC.ret ?_
    exact ⟨trivial, _, rfl, Cv.eq (congrArg BL (by simp; intro h; omega)) rfl⟩
  · (try simp only [au_std] at hc0)
    refine VC.skip ?_
    refine VC.seq ?_
    refine VC.reg tab_ok [] rfl ?_
    iterate 3 refine VX.meek rfl ?_
    refine VX.nil ?_
    refine VC.block ?_
    refine VC.loopS (σ := Nat) (fun k => a.length - k) (fun k => k ≤ a.length ∧ ∀ i, i < k → alikeR a[i]! b[i]! = true) (fun k => [(17, I64 k)]) (fun _ => []) [1, 2, 15, 16] rfl (0) ?_ ?_ ?_
    · refine ⟨[], rfl, by first | trivial | decide, by first | rfl | (simp only [noO, Bool.and_true, Bool.and_eq_true]; first | assumption | (refine ⟨?_, ?_⟩ <;> assumption)) | (simp only [noO, *, Bool.and_true, Bool.true_and, Bool.and_self]; done), ?_, ?_⟩ <;> (repeat' first | exact trivial | exact CvB_n | exact CvB_d | exact CvB_o rfl | refine CvE_app ?_ ?_ | refine CvE_cons rfl ?_ ?_ | refine CvH_cons ?_ ?_ | refine CvB_c rfl ?_ | fail) <;> first | exact au_v | (skip)
    · exact ⟨by omega, fun i hi => by omega⟩
    rintro k ⟨hk, hz⟩
    refine VC.reg tab_ok [] rfl ?_
    refine VX.meek rfl ?_
    refine VX.nil ?_
    refine VC.seq ?_
    refine VC.cond rfl (fun hc1 => ?_) (fun hc1 => ?_)
    · (try simp only [au_std] at hc1)
      refine VC.skip ?_
      refine VC.seq ?_
      refine VC.block ?_
      refine VC.reg tab_ok [] rfl ?_
      refine VX.meek rfl ?_
      first | refine VX.idxI rfl rfl rfl rfl rfl rfl (by omega) ?_ | refine VX.idxO0 rfl rfl rfl rfl rfl rfl rfl (by omega) ?_ | refine VX.idxO0 rfl rfl rfl rfl rfl rfl au_z (by omega) ?_ | refine VX.idxO rfl rfl rfl rfl rfl rfl rfl (by omega) ?_ | refine VX.idxI rfl rfl rfl rfl rfl au_z (by omega) ?_ | refine VX.idxO rfl rfl rfl rfl rfl rfl au_z (by omega) ?_ | refine VX.meek rfl ?_
      first | refine VX.meek rfl ?_ | refine VX.loadI rfl rfl au_l ?_ | refine VX.loadP rfl rfl rfl au_l ?_
      refine VX.new rfl rfl ?_
      refine VX.meek rfl ?_
      refine VX.store rfl rfl rfl rfl rfl au_sR rfl ?_
      refine VX.nil ?_
      refine VC.reg tab_ok [] rfl ?_
      iterate 2 refine VX.meek rfl ?_
      first | refine VX.idxI rfl rfl rfl rfl rfl rfl (by omega) ?_ | refine VX.idxO0 rfl rfl rfl rfl rfl rfl rfl (by omega) ?_ | refine VX.idxO0 rfl rfl rfl rfl rfl rfl au_z (by omega) ?_ | refine VX.idxO rfl rfl rfl rfl rfl rfl rfl (by omega) ?_ | refine VX.idxI rfl rfl rfl rfl rfl au_z (by omega) ?_ | refine VX.idxO rfl rfl rfl rfl rfl rfl au_z (by omega) ?_ | refine VX.meek rfl ?_
      first | refine VX.meek rfl ?_ | refine VX.loadI rfl rfl au_l ?_ | refine VX.loadP rfl rfl rfl au_l ?_
      refine VX.new rfl rfl ?_
      refine VX.store rfl rfl rfl rfl rfl au_sR rfl ?_
      refine VX.nil ?_
      refine VC.reg tab_ok [] rfl ?_
      refine VX.meek rfl ?_
      first | refine VX.meek rfl ?_ | refine VX.loadI rfl rfl au_l ?_ | refine VX.loadP rfl rfl rfl au_l ?_
      first | refine VX.meek rfl ?_ | refine VX.loadI rfl rfl au_l ?_ | refine VX.loadP rfl rfl rfl au_l ?_
      refine VX.callP0 rfl rfl rfl (alike1_p a[k]! b[k]! (ha _ (List.mem_iff_getElem?.2 ⟨k, getE (by omega)⟩))) ?_
      refine VX.meek rfl ?_
      refine VX.nil ?_
      refine VC.cond rfl (fun hc2 => ?_) (fun hc2 => ?_)
      · (try simp only [au_std] at hc2)
        refine VC.reg tab_ok [] rfl ?_
        refine VX.meek rfl ?_
        refine VX.nil ?_
        refine VC.ret ?_
        exact ⟨trivial, _, rfl, Cv.eq (congrArg BL (by simp; intro h; exact ⟨k, by omega, by simpa using hc2⟩)) rfl⟩
      · (try simp only [au_std] at hc2)
        refine VC.skip ?_
        refine VC.regN tab_ok [] rfl ?_
        first | refine VX.add rfl rfl (by omega) ?_ | refine VX.meek rfl ?_
        refine VX.meek rfl ?_
        refine VX.nil ?_
        refine ⟨k + 1, by (try dsimp only); omega, ?_, (by refine ⟨[], rfl, by first | trivial | decide, by first | rfl | (simp only [noO, Bool.and_true, Bool.and_eq_true]; first | assumption | (refine ⟨?_, ?_⟩ <;> assumption)) | (simp only [noO, *, Bool.and_true, Bool.true_and, Bool.and_self]; done), ?_, ?_⟩ <;> (repeat' first | exact trivial | exact CvB_n | exact CvB_d | exact CvB_o rfl | refine CvE_app ?_ ?_ | refine CvE_cons rfl ?_ ?_ | refine CvH_cons ?_ ?_ | refine CvB_c rfl ?_ | fail) <;> first | exact au_v | (skip))⟩
        exact ⟨by omega, fun i hi => if h : i < k then hz i h else by (obtain rfl : i = k := by omega); simpa using hc2⟩
    · (try simp only [au_std] at hc1)
      refine VC.exit ?_
      refine VC.reg tab_ok [] rfl ?_
      refine VX.meek rfl ?_
      refine VX.nil ?_
      refine VC.ret ?_
      exact ⟨trivial, _, rfl, Cv.eq (congrArg BL (by simp; exact ⟨by omega, fun i hi => by simpa using hz i (by omega)⟩)) rfl⟩
def alikeL (a b : List Rect) : Bool := decide (0 < a.length ∧ a.length = b.length ∧ ∀ i, i < a.length → alikeR a[i]! b[i]! = true)
theorem alike_p [Dr] (a b : List Rect) (ha : ∀ r ∈ a, rok r) (hl : a.length ≤ 4398046511104) : CallP Try.prog 49 [.islc (encL cR a) a.length none, .islc (encL cR b) b.length none] (BL (alikeL a b)) := by
  refine CallP.intro2 au_pu au_pu ?_
  refine CallT.intro tab_ok Try.func49 rfl (by kernel_rfl) (Nat.le_of_ble_eq_true rfl) ?_
  refine VC.reg tab_ok [] rfl ?_
  refine VX.meek rfl ?_
  refine VX.nil ?_
  refine VC.reg tab_ok [] rfl ?_
  iterate 4 refine VX.meek rfl ?_
  refine' VX.merge (d := 12) [_, _, _, _] rfl ?_ rfl ?_
  rotate_left
  · refine VX.guard rfl rfl (fun hb1_3 => ?_) (fun hb1_3 => ?_)
    · have ghb1_3 := hb1_3
      try simp only [au_std, Bool.not_true, Bool.not_false] at ghb1_3
      refine VX.meek rfl ?_
      refine VX.guardT rfl rfl hb1_3 ?_
      refine VX.meek rfl ?_
      refine VX.guardT rfl rfl hb1_3 ?_
      refine VX.callP0 rfl rfl rfl (equalF_p a b ha hl) ?_
      refine VX.pickA rfl (fun _ => rfl) ?_
      exact VX.nil ⟨rfl, rfl⟩
    · refine VX.guardF rfl rfl hb1_3 ?_
      refine VX.guardF rfl rfl hb1_3 ?_
      exact VX.pickA rfl (fun h => absurd (h.symm.trans hb1_3) (by decide)) (VX.nil ⟨rfl, rfl⟩)
  refine VX.meek rfl ?_
  refine VX.nil ?_
  refine VC.ret ?_
  exact ⟨trivial, _, rfl, Cv.eq (congrArg BL (by unfold alikeL; rw [Bool.eq_iff_iff]; simp)) rfl⟩
def gone (y : Int) (r : Rect) : Bool := decide (r.Y + r.H ≤ y)
theorem of2_p [Dr] (y : Int) (r : Rect) (hr : rok r) : CallP Try.prog 46 [rectT r, .iptr [I64 y] 0] (BL (gone y r)) := by
  unfold rok at hr
  refine CallP.intro2 au_pu au_pu ?_
  refine CallT.intro tab_ok Try.func46 rfl (by kernel_rfl) (Nat.le_of_ble_eq_true rfl) ?_
  refine VC.reg tab_ok [2] rfl ?_
  refine VX.newI rfl rfl ?_
  refine VX.meek rfl ?_
  refine VX.nil ?_
  refine VC.reg tab_ok [] rfl ?_
  refine VX.meek rfl ?_
  first | refine VX.meek rfl ?_ | refine VX.loadI rfl rfl au_l ?_ | refine VX.loadP rfl rfl rfl au_l ?_
  refine VX.meek rfl ?_
  first | refine VX.meek rfl ?_ | refine VX.loadI rfl rfl au_l ?_ | refine VX.loadP rfl rfl rfl au_l ?_
  first | refine VX.add rfl rfl (by omega) ?_ | refine VX.meek rfl ?_
  first | refine VX.meek rfl ?_ | refine VX.loadI rfl rfl au_l ?_ | refine VX.loadP rfl rfl rfl au_l ?_
  iterate 2 refine VX.meek rfl ?_
  refine VX.nil ?_
  refine VC.ret ?_
  exact ⟨trivial, _, rfl, Cv.eq (by first | rfl | (simp [*]; done)) rfl⟩
def idxG (y : Int) (l : List Rect) : Int := match l.findIdx? (gone y) with | some i => i | none => -1
theorem idxG_at {y : Int} {l : List Rect} {k : Nat} (h : ∀ i, i < k → gone y l[i]! = false) (hk : k < l.length) (hg : gone y l[k]! = true) : idxG y l = k := by
  unfold idxG
  have : l.findIdx? (gone y) = some k := by
    rw [List.findIdx?_eq_some_iff_getElem]
    refine ⟨hk, by rw [getElem!_pos l k hk] at hg; exact hg, fun j hj => ?_⟩
    have := h j hj
    rw [getElem!_pos l j (by omega)] at this
    simp [this]
  rw [this]
theorem idxG_no {y : Int} {l : List Rect} (h : ∀ i, i < l.length → gone y l[i]! = false) : idxG y l = -1 := by
  unfold idxG
  have : l.findIdx? (gone y) = none := by
    rw [List.findIdx?_eq_none_iff]
    intro r hr
    obtain ⟨i, hi⟩ := List.mem_iff_getElem?.1 hr
    obtain ⟨h1, h2⟩ := List.getElem?_eq_some_iff.1 hi
    have := h i h1
    rw [getElem!_pos l i h1, h2] at this; exact this
  rw [this]
theorem index_p [Dr] (l : List Rect) (y : Int) (ha : ∀ r ∈ l, rok r) (hl : l.length ≤ 4398046511104) : CallP Try.prog 63 [.islc (encL cR l) l.length none, .clo 46 [] [.iptr [I64 y] 0]] (I64 (idxG y l)) := by
  refine CallP.intro2 au_pu au_pu ?_
  refine CallT.intro tab_ok Try.func63 rfl (by kernel_rfl) (Nat.le_of_ble_eq_true rfl) ?_
  refine VC.reg tab_ok [] rfl ?_
  refine VX.meek rfl ?_
  refine VX.nil ?_
  refine VC.seq ?_
  refine VC.reg tab_ok [] rfl ?_
  iterate 3 refine VX.meek rfl ?_
  refine VX.nil ?_
  refine VC.block ?_
  refine VC.loopS (σ := Nat) (fun k => l.length - k) (fun k => k ≤ l.length ∧ ∀ i, i < k → gone y l[i]! = false) (fun k => [(8, I64 k)]) (fun _ => []) [0, 1, 7] rfl (0) ?_ ?_ ?_
  · refine ⟨[], rfl, by first | trivial | decide, by first | rfl | (simp only [noO, Bool.and_true, Bool.and_eq_true]; first | assumption | (refine ⟨?_, ?_⟩ <;> assumption)) | (simp only [noO, *, Bool.and_true, Bool.true_and, Bool.and_self]; done), ?_, ?_⟩ <;> (repeat' first | exact trivial | exact CvB_n | exact CvB_d | exact CvB_o rfl | refine CvE_app ?_ ?_ | refine CvE_cons rfl ?_ ?_ | refine CvH_cons ?_ ?_ | refine CvB_c rfl ?_ | fail) <;> first | exact au_v | (skip)
  · exact ⟨by omega, fun i hi => by omega⟩
  rintro k ⟨hk, hz⟩
  refine VC.reg tab_ok [] rfl ?_
  refine VX.meek rfl ?_
  refine VX.nil ?_
  refine VC.seq ?_
  refine VC.cond rfl (fun hc0 => ?_) (fun hc0 => ?_)
  · (try simp only [au_std] at hc0)
    refine VC.skip ?_
    refine VC.seq ?_
    refine VC.block ?_
    refine VC.reg tab_ok [] rfl ?_
    iterate 2 refine VX.meek rfl ?_
    refine VX.nil ?_
    refine VC.reg tab_ok [] rfl ?_
    iterate 3 refine VX.meek rfl ?_
    first | refine VX.idxI rfl rfl rfl rfl rfl rfl (by omega) ?_ | refine VX.idxO0 rfl rfl rfl rfl rfl rfl rfl (by omega) ?_ | refine VX.idxO0 rfl rfl rfl rfl rfl rfl au_z (by omega) ?_ | refine VX.idxO rfl rfl rfl rfl rfl rfl rfl (by omega) ?_ | refine VX.idxI rfl rfl rfl rfl rfl au_z (by omega) ?_ | refine VX.idxO rfl rfl rfl rfl rfl rfl au_z (by omega) ?_ | refine VX.meek rfl ?_
    first | refine VX.meek rfl ?_ | refine VX.loadI rfl rfl au_l ?_ | refine VX.loadP rfl rfl rfl au_l ?_
    refine VX.callP0 rfl rfl rfl (of2_p y l[k]! (ha _ (List.mem_iff_getElem?.2 ⟨k, getE (by omega)⟩))) ?_
    refine VX.nil ?_
    refine VC.cond rfl (fun hc1 => ?_) (fun hc1 => ?_)
    · (try simp only [au_std] at hc1)
      refine VC.reg tab_ok [] rfl ?_
      iterate 2 refine VX.meek rfl ?_
      refine VX.nil ?_
      refine VC.ret ?_
      exact ⟨trivial, _, rfl, Cv.eq (congrArg I64 (idxG_at hz (by omega) hc1).symm) rfl⟩
    · (try simp only [au_std] at hc1)
      refine VC.skip ?_
      refine VC.regN tab_ok [] rfl ?_
      first | refine VX.add rfl rfl (by omega) ?_ | refine VX.meek rfl ?_
      refine VX.meek rfl ?_
      refine VX.nil ?_
      refine ⟨k + 1, by (try dsimp only); omega, ?_, (by refine ⟨[], rfl, by first | trivial | decide, by first | rfl | (simp only [noO, Bool.and_true, Bool.and_eq_true]; first | assumption | (refine ⟨?_, ?_⟩ <;> assumption)) | (simp only [noO, *, Bool.and_true, Bool.true_and, Bool.and_self]; done), ?_, ?_⟩ <;> (repeat' first | exact trivial | exact CvB_n | exact CvB_d | exact CvB_o rfl | refine CvE_app ?_ ?_ | refine CvE_cons rfl ?_ ?_ | refine CvH_cons ?_ ?_ | refine CvB_c rfl ?_ | fail) <;> first | exact au_v | (skip))⟩
      exact ⟨by omega, fun i hi => if h : i < k then hz i h else by (obtain rfl : i = k := by omega); exact hc1⟩
  · (try simp only [au_std] at hc0)
    refine VC.exit ?_
    refine VC.reg tab_ok [] rfl ?_
    refine VX.meek rfl ?_
    refine VX.nil ?_
    refine VC.ret ?_
    exact ⟨trivial, _, rfl, Cv.eq (congrArg I64 (idxG_no (fun i hi => hz i (by omega))).symm) rfl⟩
theorem idxG_cases (y : Int) (l : List Rect) : (idxG y l = -1 ∧ l.filter (fun r => !gone y r) = l) ∨ ∃ i : Nat, i < l.length ∧ idxG y l = i ∧ (l.take (i + 1)).filter (fun r => !gone y r) = l.take i := by
  unfold idxG
  cases h : l.findIdx? (gone y) with
  | none =>
    rw [List.findIdx?_eq_none_iff] at h
    exact .inl ⟨rfl, List.filter_eq_self.2 fun r hr => by simp [h r hr]⟩
  | some i =>
    rw [List.findIdx?_eq_some_iff_getElem] at h
    obtain ⟨h1, h2, h3⟩ := h
    refine .inr ⟨i, h1, rfl, ?_⟩
    rw [List.take_succ_eq_append_getElem h1, List.filter_append, List.filter_eq_self.2 fun r hr => ?_]
    · simp [h2]
    · obtain ⟨q, hq⟩ := List.mem_iff_getElem?.1 hr
      rw [List.getElem?_take] at hq
      split at hq
      · rename_i hqi
        obtain ⟨k1, k2⟩ := List.getElem?_eq_some_iff.1 hq
        have := h3 q hqi
        rw [k2] at this
        simp [this]
      · cases hq
def DelR (l : List Rect) (y : Int) (j : Nat) (m : List Rect) : Prop := j ≤ l.length ∧ m.length = l.length ∧ m.take ((l.take j).filter fun r => !gone y r).length = (l.take j).filter (fun r => !gone y r) ∧ m.drop j = l.drop j ∧ ((l.take j).filter fun r => !gone y r).length < j
theorem DelR.at {l m : List Rect} {y : Int} {j : Nat} (h : DelR l y j m) (hj : j < l.length) : m[j]! = l[j]! := by
  obtain ⟨h1, h2, h3, h4, h5⟩ := h
  have a : m[j]? = l[j]? := by
    have := congrArg (fun q : List Rect => q[0]?) h4
    simpa using this
  rw [getElem!_pos m j (by omega), getElem!_pos l j hj]
  rw [List.getElem?_eq_getElem (by omega), List.getElem?_eq_getElem hj] at a
  injection a
theorem DelR.keep {l m : List Rect} {y : Int} {j : Nat} (h : DelR l y j m) (hj : j < l.length) (hg : gone y l[j]! = false) : DelR l y (j + 1) (m.set ((l.take j).filter fun r => !gone y r).length l[j]!) ∧ ((l.take (j + 1)).filter fun r => !gone y r).length = ((l.take j).filter fun r => !gone y r).length + 1 := by
  obtain ⟨h1, h2, h3, h4, h5⟩ := h
  have e : (l.take (j + 1)).filter (fun r => !gone y r) = (l.take j).filter (fun r => !gone y r) ++ [l[j]!] := by rw [take_snoc hj, List.filter_append, List.filter_cons_of_pos (by rw [hg]; rfl), List.filter_nil]
  refine ⟨⟨by omega, by simpa using h2, ?_, ?_, ?_⟩, by rw [e]; simp⟩
  · rw [e, List.length_append, List.length_singleton]
    generalize hF : (l.take j).filter (fun r => !gone y r) = F at *
    rw [List.take_succ_eq_append_getElem (by simp; omega), List.take_set_of_le (Nat.le_refl _), h3]
    simp
  · rw [List.drop_set, if_pos (by omega)]
    have := congrArg (List.drop 1) h4
    simpa using this
  · rw [e]; simp; omega
theorem DelR.drop {l m : List Rect} {y : Int} {j : Nat} (h : DelR l y j m) (hj : j < l.length) (hg : gone y l[j]! = true) : DelR l y (j + 1) m ∧ ((l.take (j + 1)).filter fun r => !gone y r).length = ((l.take j).filter fun r => !gone y r).length := by
  obtain ⟨h1, h2, h3, h4, h5⟩ := h
  have e : (l.take (j + 1)).filter (fun r => !gone y r) = (l.take j).filter (fun r => !gone y r) := by rw [take_snoc hj, List.filter_append, List.filter_cons_of_neg (by rw [hg]; simp), List.filter_nil, List.append_nil]
  refine ⟨⟨by omega, h2, by rw [e]; exact h3, ?_, by rw [e]; omega⟩, by rw [e]⟩
  have := congrArg (List.drop 1) h4
  simpa using this
theorem clear_tail {m F : List Rect} {tl zs : List T} (h : m.take F.length = F) : putL (encL cR m ++ tl) (0 + F.length * 4) zs = encL cR F ++ putL (encL cR (m.drop F.length) ++ tl) 0 zs := by
  have : encL cR m = encL cR F ++ encL cR (m.drop F.length) := by rw [← encL_append]; congr 1; conv => lhs; rw [← List.take_append_drop F.length m, h]
  rw [this, List.append_assoc, putL_app _ _ _ _ (by rw [encL_len, cR_sz, Nat.zero_add])]
theorem delete_t [Dr] (l : List Rect) (tl : List T) (y : Int) (c : Option Nat) (ha : ∀ r ∈ l, rok r) (hl : l.length ≤ 4398046511104) (htl : T.pureL tl = true) : CallT Try.prog 45 [.slc 0 0 l.length 4 c, .clo 46 [] [.iptr [I64 y] 0]] [.c (encL cR l ++ tl)]
    (fun t H' => ∃ tl' c', T.pureL tl' = true ∧ t = .slc 0 0 (l.filter fun r => !gone y r).length 4 c' ∧ H' = [.c (encL cR (l.filter fun r => !gone y r) ++ tl')]) := by
  have hidx := index_p l y ha hl
  have hpl : ∀ m : List Rect, T.pureL (encL cR m ++ tl) = true := fun m => pureL_append (encL_pure cR m) htl
  rcases idxG_cases y l with ⟨e, e2⟩ | ⟨i, hi, e, e2⟩
  · rw [e] at hidx
    refine CallT.intro tab_ok Try.func45 rfl (by kernel_rfl) (Nat.le_of_ble_eq_true rfl) ?_
    refine VC.reg tab_ok [] rfl ?_
    refine VX.meek rfl ?_
    refine VX.nil ?_
    refine VC.reg tab_ok [] rfl ?_
    iterate 2 refine VX.meek rfl ?_
    refine VX.callB rfl rfl (hidx) rfl au_ct ?_
    refine VX.meek rfl ?_
    refine VX.nil ?_
    refine VC.seq ?_
    refine VC.reg tab_ok [] rfl ?_
    iterate 2 refine VX.meek rfl ?_
    refine VX.nil ?_
    refine VC.condT rfl ?_
    refine VC.reg tab_ok [] rfl ?_
    iterate 2 refine VX.meek rfl ?_
    refine VX.nil ?_
    refine VC.ret ?_
    exact ⟨trivial, _, rfl, tl, c, htl, by rw [e2], by rw [e2]⟩
  · rw [e] at hidx
    refine CallT.intro tab_ok Try.func45 rfl (by kernel_rfl) (Nat.le_of_ble_eq_true rfl) ?_
    refine VC.reg tab_ok [] rfl ?_
    refine VX.meek rfl ?_
    refine VX.nil ?_
    refine VC.reg tab_ok [] rfl ?_
    iterate 2 refine VX.meek rfl ?_
    refine VX.callB rfl rfl (hidx) rfl au_ct ?_
    refine VX.meek rfl ?_
    refine VX.nil ?_
    refine VC.seq ?_
    refine VC.reg tab_ok [] rfl ?_
    iterate 2 refine VX.meek rfl ?_
    refine VX.nil ?_
    refine VC.cond rfl (fun hc0 => ?_) (fun hc0 => ?_)
    · exact absurd hc0 (by simp)
    · (try simp only [au_std] at hc0)
      refine VC.skip ?_
      refine VC.seq ?_
      refine VC.reg tab_ok [] rfl ?_
      refine VX.meek rfl ?_
      first | refine VX.add rfl rfl (by omega) ?_ | refine VX.meek rfl ?_
      refine VX.meek rfl ?_
      refine VX.nil ?_
      refine VC.block ?_
      refine VC.loopS2 (σ1 := Nat) (σ2 := List Rect) (fun j _ => l.length - j) (fun j m => DelR l y j m) (fun j _ => [(6, I64 j), (5, I64 ((l.take j).filter fun r => !gone y r).length), (0, .slc 0 0 l.length 4 c)]) (fun _ m => [.c (encL cR m ++ tl)]) [1] rfl (i + 1) (l) ?_ ?_ ?_
      · refine ⟨[some 0], rfl, by first | trivial | decide, by first | rfl | (simp only [noO, Bool.and_true, Bool.and_eq_true]; first | assumption | (refine ⟨?_, ?_⟩ <;> assumption)) | (simp only [noO, *, Bool.and_true, Bool.true_and, Bool.and_self]; done), ?_, ?_⟩ <;> (repeat' first | exact trivial | exact CvB_n | exact CvB_d | exact CvB_o rfl | refine CvE_app ?_ ?_ | refine CvE_cons rfl ?_ ?_ | refine CvH_cons ?_ ?_ | refine CvB_c rfl ?_ | fail) <;> first | exact au_v | (first | exact CvL.pure (hpl l) | exact Cv.eq (congrArg I64 (by rw [e2, List.length_take]; omega)) rfl)
      · exact ⟨by omega, rfl, by rw [e2, List.length_take, Nat.min_eq_left (by omega)], rfl, by rw [e2, List.length_take]; omega⟩
      rintro j m hR
      refine VC.seq ?_
      refine VC.reg tab_ok [] rfl ?_
      iterate 4 refine VX.meek rfl ?_
      refine VX.nil ?_
      refine VC.cond rfl (fun hc1 => ?_) (fun hc1 => ?_)
      · (try simp only [au_std] at hc1); have hj : j < l.length := (by omega); have hm := hR.at hj; have hml := hR.2.1; have hF5 := hR.2.2.2.2
        refine VC.skip ?_
        refine VC.seq ?_
        refine VC.block ?_
        refine VC.reg tab_ok [] rfl ?_
        iterate 2 refine VX.meek rfl ?_
        first | refine VX.idxI rfl rfl rfl rfl rfl rfl (by omega) ?_ | refine VX.idxO0 rfl rfl rfl rfl rfl rfl rfl (by omega) ?_ | refine VX.idxO0 rfl rfl rfl rfl rfl rfl au_z (by omega) ?_ | refine VX.idxO rfl rfl rfl rfl rfl rfl rfl (by omega) ?_ | refine VX.idxI rfl rfl rfl rfl rfl au_z (by omega) ?_ | refine VX.idxO rfl rfl rfl rfl rfl rfl au_z (by omega) ?_ | refine VX.meek rfl ?_
        first | refine VX.meek rfl ?_ | refine VX.loadI rfl rfl au_l ?_ | refine VX.loadP rfl rfl rfl au_l ?_
        refine VX.new rfl rfl ?_
        refine VX.store rfl rfl rfl rfl rfl au_sR rfl ?_
        refine VX.nil ?_
        refine VC.reg tab_ok [] rfl ?_
        refine VX.meek rfl ?_
        first | refine VX.meek rfl ?_ | refine VX.loadI rfl rfl au_l ?_ | refine VX.loadP rfl rfl rfl au_l ?_
        refine VX.callP0 rfl rfl rfl (of2_p y m[j]! (by rw [hm]; exact ha _ (List.mem_iff_getElem?.2 ⟨j, getE hj⟩))) ?_
        refine VX.meek rfl ?_
        refine VX.nil ?_
        refine VC.cond rfl (fun hc2 => ?_) (fun hc2 => ?_)
        · rw [hm] at hc2; have hk := hR.keep hj (by simpa using hc2)
          refine VC.reg tab_ok [] rfl ?_
          iterate 2 refine VX.meek rfl ?_
          first | refine VX.meek rfl ?_ | refine VX.loadI rfl rfl au_l ?_ | refine VX.loadP rfl rfl rfl au_l ?_
          first | refine VX.idxI rfl rfl rfl rfl rfl rfl (by omega) ?_ | refine VX.idxO0 rfl rfl rfl rfl rfl rfl rfl (by omega) ?_ | refine VX.idxO0 rfl rfl rfl rfl rfl rfl au_z (by omega) ?_ | refine VX.idxO rfl rfl rfl rfl rfl rfl rfl (by omega) ?_ | refine VX.idxI rfl rfl rfl rfl rfl au_z (by omega) ?_ | refine VX.idxO rfl rfl rfl rfl rfl rfl au_z (by omega) ?_ | refine VX.meek rfl ?_
          refine VX.store rfl rfl rfl rfl rfl au_sR rfl ?_
          refine VX.nil ?_
          refine VC.regN tab_ok [] rfl ?_
          refine VX.meek rfl ?_
          first | refine VX.add rfl rfl (by omega) ?_ | refine VX.meek rfl ?_
          refine VX.meek rfl ?_
          refine VX.nil ?_
          refine VC.regN tab_ok [] rfl ?_
          refine VX.meek rfl ?_
          first | refine VX.add rfl rfl (by omega) ?_ | refine VX.meek rfl ?_
          refine VX.meek rfl ?_
          refine VX.nil ?_
          refine ⟨j + 1, m.set ((l.take j).filter fun r => !gone y r).length l[j]!, by (try dsimp only); omega, ?_, (by refine ⟨[some 0], rfl, by first | trivial | decide, by first | rfl | (simp only [noO, Bool.and_true, Bool.and_eq_true]; first | assumption | (refine ⟨?_, ?_⟩ <;> assumption)) | (simp only [noO, *, Bool.and_true, Bool.true_and, Bool.and_self]; done), ?_, ?_⟩ <;> (repeat' first | exact trivial | exact CvB_n | exact CvB_d | exact CvB_o rfl | refine CvE_app ?_ ?_ | refine CvE_cons rfl ?_ ?_ | refine CvH_cons ?_ ?_ | refine CvB_c rfl ?_ | fail) <;> first | exact au_v | (first | exact Cv.eq (congrArg I64 (by have := hk.2; omega)) rfl | (rw [← hm]; exact CvL.eq (encL_putW cR (by omega)) (hpl _))))⟩
          exact hk.1
        · rw [hm] at hc2; have hk := hR.drop hj (by simpa using hc2)
          refine VC.skip ?_
          refine VC.regN tab_ok [] rfl ?_
          refine VX.meek rfl ?_
          first | refine VX.add rfl rfl (by omega) ?_ | refine VX.meek rfl ?_
          refine VX.meek rfl ?_
          refine VX.nil ?_
          refine ⟨j + 1, m, by (try dsimp only); omega, ?_, (by refine ⟨[some 0], rfl, by first | trivial | decide, by first | rfl | (simp only [noO, Bool.and_true, Bool.and_eq_true]; first | assumption | (refine ⟨?_, ?_⟩ <;> assumption)) | (simp only [noO, *, Bool.and_true, Bool.true_and, Bool.and_self]; done), ?_, ?_⟩ <;> (repeat' first | exact trivial | exact CvB_n | exact CvB_d | exact CvB_o rfl | refine CvE_app ?_ ?_ | refine CvE_cons rfl ?_ ?_ | refine CvH_cons ?_ ?_ | refine CvB_c rfl ?_ | fail) <;> first | exact au_v | (first | exact Cv.eq (congrArg I64 (by have := hk.2; omega)) rfl | exact CvL.pure (hpl _)))⟩
          exact hk.1
      · (try simp only [au_std] at hc1); have hj1 := hR.1; have hml := hR.2.1; have hF5 := hR.2.2.2.2; have h3 := hR.2.2.1; have hje : l.take j = l := List.take_of_length_le (by omega)
        refine VC.exit ?_
        refine VC.reg tab_ok [] rfl ?_
        iterate 2 refine VX.meek rfl ?_
        first | refine VX.slcO rfl rfl rfl rfl rfl rfl rfl rfl (by first | rfl | exact (Int.toNat_of_nonneg (by omega)).symm) (by first | rfl | exact (Int.toNat_of_nonneg (by omega)).symm) (by omega) (by omega) (by omega) ?_ | refine VX.slcI rfl rfl rfl rfl rfl rfl rfl (by first | rfl | exact (Int.toNat_of_nonneg (by omega)).symm) (by first | rfl | exact (Int.toNat_of_nonneg (by omega)).symm) (by omega) (by omega) (by omega) ?_ | refine VX.meek rfl ?_
        refine VX.clearO rfl rfl rfl rfl rfl rfl au_sR rfl ?_
        refine VX.nil ?_
        refine VC.reg tab_ok [] rfl ?_
        iterate 2 refine VX.meek rfl ?_
        first | refine VX.slcO0 rfl rfl rfl rfl rfl rfl (by first | rfl | exact (Int.toNat_of_nonneg (by omega)).symm) (by omega) ?_ | refine VX.slcI0 rfl rfl rfl rfl rfl (by first | rfl | exact (Int.toNat_of_nonneg (by omega)).symm) (by omega) ?_ | refine VX.meek rfl ?_
        refine VX.meek rfl ?_
        refine VX.nil ?_
        refine VC.ret ?_
        rw [hje] at h3; refine ⟨trivial, _, rfl, _, _, ?_, by rw [hje], by rw [hje]; exact congrArg (fun q => [Blk.c q]) (clear_tail h3)⟩; exact pureL_putL (pureL_append (encL_pure cR _) htl) (pureL_zeros rfl)
end
section
open Go.RowKit Go.Sort
set_option maxRecDepth 10000
theorem insR_0 [Dr] (cs : List T) (c : Option Nat) (g : FuncId) (hp : T.pureL cs = true) : CallT Try.prog 69 [.slc 0 0 0 4 c, I64 0, I64 0, .clo g [] []] [.c cs] (fun t H' => t = .tup [] ∧ H' = [.c cs]) := by
  refine CallT.intro tab_ok Try.func69 rfl (by kernel_rfl) (Nat.le_of_ble_eq_true rfl) ?_
  refine VC.reg tab_ok [] rfl ?_
  refine VX.meek rfl ?_
  first | refine VX.add rfl rfl (by omega) ?_ | refine VX.meek rfl ?_
  refine VX.meek rfl ?_
  refine VX.nil ?_
  refine VC.block ?_
  refine VC.loopS (σ := Unit) (fun _ => 0) (fun _ => True) (fun _ => [(8, I64 1), (2, I64 0)]) (fun _ => [.c cs]) [0, 1, 3] rfl (()) ?_ ?_ ?_
  · refine ⟨[some 0], rfl, by first | trivial | decide, by first | rfl | (simp only [noO, Bool.and_true, Bool.and_eq_true]; first | assumption | (refine ⟨?_, ?_⟩ <;> assumption)) | (simp only [noO, *, Bool.and_true, Bool.true_and, Bool.and_self]; done), ?_, ?_⟩ <;> (repeat' first | exact trivial | exact CvB_n | exact CvB_d | exact CvB_o rfl | refine CvE_app ?_ ?_ | refine CvE_cons rfl ?_ ?_ | refine CvH_cons ?_ ?_ | refine CvB_c rfl ?_ | fail) <;> first | exact au_v | (exact CvL.pure hp)
  · trivial
  rintro _ _
  refine VC.seq ?_
  refine VC.reg tab_ok [] rfl ?_
  iterate 3 refine VX.meek rfl ?_
  refine VX.nil ?_
  refine VC.condF rfl ?_
  refine VC.exit ?_
  exact ⟨trivial, _, rfl, rfl, rfl⟩
theorem pdqR_0 [Dr] (cs : List T) (c : Option Nat) (g : FuncId) (hp : T.pureL cs = true) : CallT Try.prog 58 [.slc 0 0 0 4 c, I64 0, I64 0, I64 0, .clo g [] []] [.c cs] (fun t H' => t = .tup [] ∧ H' = [.c cs]) := by
  refine CallT.intro tab_ok Try.func58 rfl (by kernel_rfl) (Nat.le_of_ble_eq_true rfl) ?_
  refine VC.reg tab_ok [] rfl ?_
  refine VX.meek rfl ?_
  refine VX.nil ?_
  refine VC.reg tab_ok [] rfl ?_
  refine VX.meek rfl ?_
  refine VX.nil ?_
  refine VC.block ?_
  refine VC.loopS (σ := Unit) (fun _ => 0) (fun _ => True) (fun _ => [(0, .slc 0 0 0 4 c), (1, I64 0), (2, I64 0), (4, .clo g [] [])]) (fun _ => [.c cs]) [] rfl (()) ?_ ?_ ?_
  · refine ⟨[some 0], rfl, by first | trivial | decide, by first | rfl | (simp only [noO, Bool.and_true, Bool.and_eq_true]; first | assumption | (refine ⟨?_, ?_⟩ <;> assumption)) | (simp only [noO, *, Bool.and_true, Bool.true_and, Bool.and_self]; done), ?_, ?_⟩ <;> (repeat' first | exact trivial | exact CvB_n | exact CvB_d | exact CvB_o rfl | refine CvE_app ?_ ?_ | refine CvE_cons rfl ?_ ?_ | refine CvH_cons ?_ ?_ | refine CvB_c rfl ?_ | fail) <;> first | exact au_v | (exact CvL.pure hp)
  · trivial
  rintro _ _
  refine VC.block ?_
  refine VC.reg tab_ok [] rfl ?_
  iterate 2 refine VX.meek rfl ?_
  first | refine VX.sub rfl rfl (by omega) ?_ | refine VX.meek rfl ?_
  refine VX.meek rfl ?_
  refine VX.nil ?_
  refine VC.seq ?_
  refine VC.reg tab_ok [] rfl ?_
  iterate 2 refine VX.meek rfl ?_
  refine VX.nil ?_
  refine VC.condT rfl ?_
  refine VC.reg tab_ok [] rfl ?_
  iterate 4 refine VX.meek rfl ?_
  refine VX.callT rfl rfl ((insR_0 cs c g hp).mono ?_); rintro _ _ ⟨rfl, rfl⟩
  refine VX.nil ?_
  refine VC.ret ?_
  exact ⟨trivial, _, rfl, rfl, rfl⟩
theorem sortR_0 [Dr] (cs : List T) (c : Option Nat) (g : FuncId) (hp : T.pureL cs = true) : CallT Try.prog 40 [.slc 0 0 0 4 c, .clo g [] []] [.c cs] (fun t H' => t = .tup [] ∧ H' = [.c cs]) := by
  refine CallT.intro tab_ok Try.func40 rfl (by kernel_rfl) (Nat.le_of_ble_eq_true rfl) ?_
  refine VC.reg tab_ok [] rfl ?_
  iterate 3 refine VX.meek rfl ?_
  refine VX.nil ?_
  refine VC.regN tab_ok [] rfl ?_
  iterate 3 refine VX.meek rfl ?_
  first | refine VX.meek rfl ?_ | refine VX.bytes tab_ok rfl rfl rfl rfl rfl rfl rfl rfl (by first | omega | (dsimp only; omega) | assumption) ?_
  refine VX.callP0 rfl rfl rfl (len_0) ?_
  refine VX.meek rfl ?_
  refine VX.callT rfl rfl ((pdqR_0 cs c g hp).mono ?_); rintro _ _ ⟨rfl, rfl⟩
  refine VX.nil ?_
  exact ⟨trivial, _, rfl, rfl, rfl⟩
theorem sortYX_any [Dr] {c : Option Nat} (l : List Rect) (tl : List T) (hn : l.length < 4611686018427387904) (ht : T.pureL tl = true) :
    CallT Try.prog 40 [.slc 0 0 l.length 4 c, .clo 41 [] []] [.c (encL cR l ++ tl)] (fun t H' => t = .tup [] ∧ ∃ l' : List Rect, l'.Perm l ∧ (∀ i j, i < j → j < l'.length → 0 ≤ cfYX l'[j]! l'[i]!) ∧ H' = [.c (encL cR l' ++ tl)]) := by
  by_cases hl : l = []
  · subst hl
    exact (sortR_0 _ c _ (pureL_append (encL_pure cR []) ht)).mono fun t H' ⟨h1, h2⟩ => ⟨h1, [], List.Perm.refl _, fun i j _ h => by simp at h, h2⟩
  · exact (sortYX_t (H := [.c (encL cR l ++ tl)]) (b := 0) hl hn rfl).mono fun t H' ⟨h1, l', h2, h3, h4⟩ => ⟨h1, l', h2, h3, h4⟩
theorem sortX_any [Dr] {c : Option Nat} (l : List Rect) (tl : List T) (hn : l.length < 4611686018427387904) (ht : T.pureL tl = true) :
    CallT Try.prog 40 [.slc 0 0 l.length 4 c, .clo 47 [] []] [.c (encL cR l ++ tl)] (fun t H' => t = .tup [] ∧ ∃ l' : List Rect, l'.Perm l ∧ (∀ i j, i < j → j < l'.length → 0 ≤ cfX l'[j]! l'[i]!) ∧ H' = [.c (encL cR l' ++ tl)]) := by
  by_cases hl : l = []
  · subst hl
    exact (sortR_0 _ c _ (pureL_append (encL_pure cR []) ht)).mono fun t H' ⟨h1, h2⟩ => ⟨h1, [], List.Perm.refl _, fun i j _ h => by simp at h, h2⟩
  · exact (sortX_t (H := [.c (encL cR l ++ tl)]) (b := 0) hl hn rfl).mono fun t H' ⟨h1, l', h2, h3, h4⟩ => ⟨h1, l', h2, h3, h4⟩
def sortI (l : List Int) : List Int := l.mergeSort fun x y => decide (x ≤ y)
theorem sortI_any [Dr] {c : Option Nat} (l : List Int) (tl : List T) (hn : l.length < 4611686018427387904) (ht : T.pureL tl = true) :
    CallT Try.prog 61 [.slc 0 0 l.length 1 c] [.c (encL cI l ++ tl)] (fun t H' => t = .tup [] ∧ H' = [.c (encL cI (sortI l) ++ tl)]) := by
  by_cases hl : l = []
  · subst hl
    exact (sortI_0 _ c (pureL_append (encL_pure cI []) ht)).mono fun t H' ⟨h1, h2⟩ => ⟨h1, by rw [h2]; simp [sortI, encL]⟩
  · exact (sortI_t (H := [.c (encL cI l ++ tl)]) (b := 0) hl hn rfl).mono fun t H' ⟨h1, h4⟩ => ⟨h1, h4⟩
def compGo (p : Int) : List Int → List Int
  | [] => []
  | x :: l => if x = p then compGo p l else x :: compGo x l
def comp : List Int → List Int
  | [] => []
  | x :: l => x :: compGo x l
theorem compGo_snoc : ∀ (l : List Int) (p x : Int), compGo p (l ++ [x]) = compGo p l ++ (if x = (p :: l).getLast (by simp) then [] else [x])
  | [], p, x => by simp only [List.nil_append, compGo, List.getLast_singleton]; split <;> simp_all
  | y :: l, p, x => by
    simp only [List.cons_append, compGo]
    split
    · rename_i h; subst h
      rw [compGo_snoc l y x]
      congr 1
    · rw [compGo_snoc l y x]
      rw [List.cons_append]
      congr 1
theorem comp_snoc {l : List Int} {x : Int} (h : l ≠ []) : comp (l ++ [x]) = comp l ++ (if x = l.getLast h then [] else [x]) := by
  cases l with
  | nil => exact absurd rfl h
  | cons y l => simp only [List.cons_append, comp, compGo_snoc]
theorem comp_take {l : List Int} {j : Nat} (h1 : 0 < j) (hj : j < l.length) : comp (l.take (j + 1)) = comp (l.take j) ++ (if l[j]! = l[j - 1]! then [] else [l[j]!]) := by
  have hne : l.take j ≠ [] := fun e => by have := congrArg List.length e; rw [List.length_take, List.length_nil] at this; omega
  rw [take_snoc hj, comp_snoc hne]
  have : (l.take j).getLast hne = l[j - 1]! := by
    rw [List.getLast_eq_getElem]
    simp only [List.getElem_take, List.length_take, Nat.min_eq_left (show j ≤ l.length by omega)]
    rw [getElem!_pos l (j - 1) (by omega)]
  rw [this]
theorem comp_len : ∀ {l : List Int} {j : Nat}, 0 < j → j ≤ l.length → (∀ i, 0 < i → i < j → l[i]! ≠ l[i - 1]!) → comp (l.take j) = l.take j
  | l, 1, _, h, _ => by
    obtain ⟨x, l, rfl⟩ : ∃ x m, l = x :: m := by cases l with | nil => simp at h | cons x m => exact ⟨x, m, rfl⟩
    simp [comp, compGo]
  | l, j + 2, _, h, k => by
    rw [comp_take (by omega) (by omega), comp_len (by omega) (by omega) (fun i h1 h2 => k i h1 (by omega)), take_snoc (k := j + 1) (by omega), if_neg (k (j + 1) (by omega) (by omega))]
def CmpR (l : List Int) (j : Nat) (m : List Int) : Prop := 0 < j ∧ j ≤ l.length ∧ m.length = l.length ∧ m.take (comp (l.take j)).length = comp (l.take j) ∧ m.drop (j - 1) = l.drop (j - 1) ∧ (comp (l.take j)).length < j
theorem CmpR.at {l m : List Int} {j : Nat} (h : CmpR l j m) (hj : j < l.length) : m[j]! = l[j]! ∧ m[j - 1]! = l[j - 1]! := by
  obtain ⟨h0, h1, h2, h3, h4, h5⟩ := h
  have a : ∀ i, j - 1 ≤ i → i < l.length → m[i]! = l[i]! := fun i hi hl => by
    have := congrArg (fun q : List Int => q[i - (j - 1)]?) h4
    simp only [List.getElem?_drop] at this
    rw [show j - 1 + (i - (j - 1)) = i from by omega, List.getElem?_eq_getElem (by omega), List.getElem?_eq_getElem hl] at this
    injection this with this
    rw [getElem!_pos m i (by omega), getElem!_pos l i hl, this]
  exact ⟨a j (by omega) hj, a (j - 1) (by omega) (by omega)⟩
theorem CmpR.same {l m : List Int} {j : Nat} (h : CmpR l j m) (hj : j < l.length) (he : l[j]! = l[j - 1]!) : CmpR l (j + 1) m ∧ (comp (l.take (j + 1))).length = (comp (l.take j)).length := by
  obtain ⟨h0, h1, h2, h3, h4, h5⟩ := h
  have e : comp (l.take (j + 1)) = comp (l.take j) := by rw [comp_take h0 hj, if_pos he, List.append_nil]
  refine ⟨⟨by omega, by omega, h2, by rw [e]; exact h3, ?_, by rw [e]; omega⟩, by rw [e]⟩
  have := congrArg (List.drop 1) h4
  rw [List.drop_drop, List.drop_drop, show j - 1 + 1 = j from by omega] at this
  simpa using this
theorem CmpR.new {l m : List Int} {j : Nat} (h : CmpR l j m) (hj : j < l.length) (he : l[j]! ≠ l[j - 1]!) : CmpR l (j + 1) (m.set (comp (l.take j)).length l[j]!) ∧ (comp (l.take (j + 1))).length = (comp (l.take j)).length + 1 := by
  obtain ⟨h0, h1, h2, h3, h4, h5⟩ := h
  have e : comp (l.take (j + 1)) = comp (l.take j) ++ [l[j]!] := by rw [comp_take h0 hj, if_neg he]
  refine ⟨⟨by omega, by omega, by simpa using h2, ?_, ?_, by rw [e]; simp; omega⟩, by rw [e]; simp⟩
  · rw [e, List.length_append, List.length_singleton]
    generalize comp (l.take j) = F at *
    rw [List.take_succ_eq_append_getElem (by simp; omega), List.take_set_of_le (Nat.le_refl _), h3]
    simp
  · rw [List.drop_set, if_pos (by omega)]
    have := congrArg (List.drop 1) h4
    rw [List.drop_drop, List.drop_drop, show j - 1 + 1 = j from by omega] at this
    simpa using this
theorem cmp_start {l : List Int} {k : Nat} (h0 : 0 < k) (hk : k < l.length) (hz : ∀ i, 0 < i → i < k → l[i]! ≠ l[i - 1]!) (he : l[k]! = l[k - 1]!) : CmpR l (k + 1) l ∧ (comp (l.take (k + 1))).length = k := by
  have e : comp (l.take (k + 1)) = l.take k := by rw [comp_take h0 hk, if_pos he, List.append_nil, comp_len h0 (by omega) hz]
  have el : (l.take k).length = k := by rw [List.length_take]; omega
  exact ⟨⟨by omega, by omega, rfl, by rw [e, el], rfl, by rw [e, el]; omega⟩, by rw [e, el]⟩
theorem comp_short {l : List Int} (h : (l.length : Int) < 2) : comp l = l := by
  match l with
  | [] => rfl
  | [x] => rfl
  | x :: y :: l => simp at h; omega
theorem part_int {ti : TyI} {m : List Int} {tl : List T} {j o : Nat} (ht : ti.k.agg = false) (ho : o = j) (hj : j < m.length) : partT ti (encL cI m ++ tl) o = some (I64 m[j]!) := by
  subst ho
  unfold partT
  rw [ht, if_neg (by simp), List.getElem?_append_left (by rw [encL_len, cI_sz]; omega)]
  have := encL_get cI m o 0 m[o]! (getE hj) (by decide)
  rw [show o * cI.sz + 0 = o from by rw [cI_sz]; omega] at this
  rw [this]; rfl
theorem clear_tailI {m F : List Int} {tl zs : List T} (h : m.take F.length = F) : putL (encL cI m ++ tl) (0 + F.length * 1) zs = encL cI F ++ putL (encL cI (m.drop F.length) ++ tl) 0 zs := by
  have : encL cI m = encL cI F ++ encL cI (m.drop F.length) := by rw [← encL_append]; congr 1; conv => lhs; rw [← List.take_append_drop F.length m, h]
  rw [this, List.append_assoc, putL_app _ _ _ _ (by rw [encL_len, cI_sz, Nat.zero_add])]
theorem compact_t [Dr] (l : List Int) (tl : List T) (c : Option Nat) (hl : l.length ≤ 35184372088832) (htl : T.pureL tl = true) : CallT Try.prog 62 [.slc 0 0 l.length 1 c] [.c (encL cI l ++ tl)]
    (fun t H' => ∃ tl' c', T.pureL tl' = true ∧ t = .slc 0 0 (comp l).length 1 c' ∧ H' = [.c (encL cI (comp l) ++ tl')]) := by
  have hpl : ∀ m : List Int, T.pureL (encL cI m ++ tl) = true := fun m => pureL_append (encL_pure cI m) htl
  refine CallT.intro tab_ok Try.func62 rfl (by kernel_rfl) (Nat.le_of_ble_eq_true rfl) ?_
  refine VC.reg tab_ok [] rfl ?_
  refine VX.meek rfl ?_
  refine VX.nil ?_
  refine VC.seq ?_
  refine VC.reg tab_ok [] rfl ?_
  iterate 3 refine VX.meek rfl ?_
  refine VX.nil ?_
  refine VC.cond rfl (fun hc0 => ?_) (fun hc0 => ?_)
  · (try simp only [au_std] at hc0)
    refine VC.reg tab_ok [] rfl ?_
    iterate 2 refine VX.meek rfl ?_
    refine VX.nil ?_
    refine VC.ret ?_
    exact ⟨trivial, _, rfl, tl, c, htl, by rw [comp_short hc0], by rw [comp_short hc0]⟩
  · (try simp only [au_std] at hc0)
    refine VC.skip ?_
    refine VC.seq ?_
    refine VC.reg tab_ok [] rfl ?_
    refine VX.meek rfl ?_
    refine VX.nil ?_
    refine VC.block ?_
    refine VC.loopS (σ := Nat) (fun k => l.length - k) (fun k => 0 < k ∧ k ≤ l.length ∧ ∀ i, 0 < i → i < k → l[i]! ≠ l[i - 1]!) (fun k => [(3, I64 k), (0, .slc 0 0 l.length 1 c)]) (fun _ => [.c (encL cI l ++ tl)]) [] rfl (1) ?_ ?_ ?_
    · refine ⟨[some 0], rfl, by first | trivial | decide, by first | rfl | (simp only [noO, Bool.and_true, Bool.and_eq_true]; first | assumption | (refine ⟨?_, ?_⟩ <;> assumption)) | (simp only [noO, *, Bool.and_true, Bool.true_and, Bool.and_self]; done), ?_, ?_⟩ <;> (repeat' first | exact trivial | exact CvB_n | exact CvB_d | exact CvB_o rfl | refine CvE_app ?_ ?_ | refine CvE_cons rfl ?_ ?_ | refine CvH_cons ?_ ?_ | refine CvB_c rfl ?_ | fail) <;> first | exact au_v | (exact CvL.pure (hpl _))
    · exact ⟨by omega, by omega, fun i h1 h2 => by omega⟩
    rintro k ⟨h0, hk, hz⟩
    refine VC.seq ?_
    refine VC.reg tab_ok [] rfl ?_
    iterate 4 refine VX.meek rfl ?_
    refine VX.nil ?_
    refine VC.cond rfl (fun hc1 => ?_) (fun hc1 => ?_)
    · (try simp only [au_std] at hc1); have hkn : k < l.length := (by omega)
      refine VC.skip ?_
      refine VC.seq ?_
      refine VC.block ?_
      refine VC.drw tab_ok [] [_, _, _, _, _, _, _, _, _, _] rfl (by kernel_rfl) (by kernel_rfl) ?_
      iterate 2 refine VX.meek rfl ?_
      first | refine VX.idxI rfl rfl rfl rfl rfl rfl (by omega) ?_ | refine VX.idxO0 rfl rfl rfl rfl rfl rfl rfl (by omega) ?_ | refine VX.idxO0 rfl rfl rfl rfl rfl rfl au_z (by omega) ?_ | refine VX.idxO rfl rfl rfl rfl rfl rfl rfl (by omega) ?_ | refine VX.idxI rfl rfl rfl rfl rfl au_z (by omega) ?_ | refine VX.idxO rfl rfl rfl rfl rfl rfl au_z (by omega) ?_ | refine VX.meek rfl ?_
      first | refine VX.meek rfl ?_ | refine VX.loadI rfl rfl au_l ?_ | refine VX.loadP rfl rfl rfl au_l ?_
      iterate 2 refine VX.meek rfl ?_
      first | refine VX.sub rfl rfl (by omega) ?_ | refine VX.meek rfl ?_
      refine VX.idxO0 (m := k - 1) rfl rfl rfl rfl rfl rfl (by omega) (by omega) ?_
      first | refine VX.meek rfl ?_ | refine VX.loadI rfl rfl au_l ?_ | refine VX.loadP rfl rfl rfl au_l ?_
      refine VX.meek rfl ?_
      iterate 2 refine VX.nil ?_
      refine VC.cond rfl (fun hc2 => ?_) (fun hc2 => ?_)
      · (try simp only [au_std] at hc2); have hR0 := cmp_start h0 hkn hz hc2
        refine VC.reg tab_ok [] rfl ?_
        iterate 2 refine VX.meek rfl ?_
        first | refine VX.slcO rfl rfl rfl rfl rfl rfl rfl rfl (by first | rfl | exact (Int.toNat_of_nonneg (by omega)).symm) (by first | rfl | exact (Int.toNat_of_nonneg (by omega)).symm) (by omega) (by omega) (by omega) ?_ | refine VX.slcI rfl rfl rfl rfl rfl rfl rfl (by first | rfl | exact (Int.toNat_of_nonneg (by omega)).symm) (by first | rfl | exact (Int.toNat_of_nonneg (by omega)).symm) (by omega) (by omega) (by omega) ?_ | refine VX.meek rfl ?_
        refine VX.meek rfl ?_
        refine VX.nil ?_
        refine VC.seq ?_
        refine VC.reg tab_ok [] rfl ?_
        refine VX.meek rfl ?_
        refine VX.nil ?_
        refine VC.block ?_
        refine VC.loopS2 (σ1 := Nat) (σ2 := List Int) (fun j _ => l.length - j) (fun j m => k < j ∧ CmpR l j m) (fun j _ => [(5, I64 (j - k : Nat)), (3, I64 (comp (l.take j)).length), (0, .slc 0 0 l.length 1 c), (4, .slc 0 (0 + k * 1) (l.length - k) 1 (c.map fun q => q - k))]) (fun _ m => [.c (encL cI m ++ tl)]) [] rfl (k + 1) (l) ?_ ?_ ?_
        · refine ⟨[some 0], rfl, by first | trivial | decide, by first | rfl | (simp only [noO, Bool.and_true, Bool.and_eq_true]; first | assumption | (refine ⟨?_, ?_⟩ <;> assumption)) | (simp only [noO, *, Bool.and_true, Bool.true_and, Bool.and_self]; done), ?_, ?_⟩ <;> (repeat' first | exact trivial | exact CvB_n | exact CvB_d | exact CvB_o rfl | refine CvE_app ?_ ?_ | refine CvE_cons rfl ?_ ?_ | refine CvH_cons ?_ ?_ | refine CvB_c rfl ?_ | fail) <;> first | exact au_v | (first | exact Cv.eq (congrArg I64 (by have := hR0.2; omega)) rfl | exact CvL.pure (hpl _))
        · exact ⟨by omega, hR0.1⟩
        rintro j m ⟨hkj, hR⟩
        refine VC.seq ?_
        refine VC.reg tab_ok [] rfl ?_
        iterate 4 refine VX.meek rfl ?_
        refine VX.nil ?_
        refine VC.cond rfl (fun hc3 => ?_) (fun hc3 => ?_)
        · (try simp only [au_std] at hc3); have hj : j < l.length := (by omega); have hm := hR.at hj; have hml := hR.2.2.1; have hF := hR.2.2.2.2.2
          refine VC.skip ?_
          refine VC.seq ?_
          refine VC.block ?_
          refine VC.drw tab_ok [] [_, _, _, _, _, _, _, _, _, _] rfl (by kernel_rfl) (by kernel_rfl) ?_
          iterate 2 refine VX.meek rfl ?_
          refine VX.idxO (m := j - k) rfl rfl rfl rfl rfl rfl (by omega) (by omega) ?_
          refine VX.loadP rfl rfl rfl (part_int (m := m) (j := j) rfl (by omega) (by omega)) ?_
          iterate 2 refine VX.meek rfl ?_
          first | refine VX.sub rfl rfl (by omega) ?_ | refine VX.meek rfl ?_
          refine VX.idxO (m := j - 1 - k) rfl rfl rfl rfl rfl rfl (by omega) (by omega) ?_
          refine VX.loadP rfl rfl rfl (part_int (m := m) (j := j - 1) rfl (by omega) (by omega)) ?_
          refine VX.meek rfl ?_
          iterate 2 refine VX.nil ?_
          refine VC.cond rfl (fun hc4 => ?_) (fun hc4 => ?_)
          · (try simp only [au_std] at hc4); rw [hm.1, hm.2] at hc4; have hn := hR.new hj hc4
            refine VC.reg tab_ok [] rfl ?_
            iterate 4 refine VX.meek rfl ?_
            refine VX.idxO (m := j - k) rfl rfl rfl rfl rfl rfl (by omega) (by omega) ?_
            refine VX.loadP rfl rfl rfl (part_int (m := m) (j := j) rfl (by omega) (by omega)) ?_
            first | refine VX.idxI rfl rfl rfl rfl rfl rfl (by omega) ?_ | refine VX.idxO0 rfl rfl rfl rfl rfl rfl rfl (by omega) ?_ | refine VX.idxO0 rfl rfl rfl rfl rfl rfl au_z (by omega) ?_ | refine VX.idxO rfl rfl rfl rfl rfl rfl rfl (by omega) ?_ | refine VX.idxI rfl rfl rfl rfl rfl au_z (by omega) ?_ | refine VX.idxO rfl rfl rfl rfl rfl rfl au_z (by omega) ?_ | refine VX.meek rfl ?_
            refine VX.store rfl rfl rfl rfl rfl au_sR rfl ?_
            refine VX.nil ?_
            refine VC.regN tab_ok [] rfl ?_
            refine VX.meek rfl ?_
            first | refine VX.add rfl rfl (by omega) ?_ | refine VX.meek rfl ?_
            refine VX.meek rfl ?_
            refine VX.nil ?_
            refine VC.regN tab_ok [] rfl ?_
            refine VX.meek rfl ?_
            first | refine VX.add rfl rfl (by omega) ?_ | refine VX.meek rfl ?_
            refine VX.meek rfl ?_
            refine VX.nil ?_
            refine ⟨j + 1, m.set (comp (l.take j)).length l[j]!, by (try dsimp only); omega, ?_, (by refine ⟨[some 0], rfl, by first | trivial | decide, by first | rfl | (simp only [noO, Bool.and_true, Bool.and_eq_true]; first | assumption | (refine ⟨?_, ?_⟩ <;> assumption)) | (simp only [noO, *, Bool.and_true, Bool.true_and, Bool.and_self]; done), ?_, ?_⟩ <;> (repeat' first | exact trivial | exact CvB_n | exact CvB_d | exact CvB_o rfl | refine CvE_app ?_ ?_ | refine CvE_cons rfl ?_ ?_ | refine CvH_cons ?_ ?_ | refine CvB_c rfl ?_ | fail) <;> first | exact au_v | (first | exact Cv.eq (congrArg I64 (by have := hn.2; omega)) rfl | (rw [← hm.1]; exact CvL.eq (encL_putW cI (by omega)) (hpl _))))⟩
            exact ⟨by omega, hn.1⟩
          · (try simp only [au_std] at hc4); rw [hm.1, hm.2] at hc4; have hn := hR.same hj hc4
            refine VC.skip ?_
            refine VC.regN tab_ok [] rfl ?_
            refine VX.meek rfl ?_
            first | refine VX.add rfl rfl (by omega) ?_ | refine VX.meek rfl ?_
            refine VX.meek rfl ?_
            refine VX.nil ?_
            refine ⟨j + 1, m, by (try dsimp only); omega, ?_, (by refine ⟨[some 0], rfl, by first | trivial | decide, by first | rfl | (simp only [noO, Bool.and_true, Bool.and_eq_true]; first | assumption | (refine ⟨?_, ?_⟩ <;> assumption)) | (simp only [noO, *, Bool.and_true, Bool.true_and, Bool.and_self]; done), ?_, ?_⟩ <;> (repeat' first | exact trivial | exact CvB_n | exact CvB_d | exact CvB_o rfl | refine CvE_app ?_ ?_ | refine CvE_cons rfl ?_ ?_ | refine CvH_cons ?_ ?_ | refine CvB_c rfl ?_ | fail) <;> first | exact au_v | (first | exact Cv.eq (congrArg I64 (by have := hn.2; omega)) rfl | exact CvL.pure (hpl _)))⟩
            exact ⟨by omega, hn.1⟩
        · (try simp only [au_std] at hc3); have hj1 := hR.2.1; have hml := hR.2.2.1; have hF := hR.2.2.2.2.2; have h3 := hR.2.2.2.1; have hje : l.take j = l := List.take_of_length_le (by omega)
          refine VC.exit ?_
          refine VC.reg tab_ok [] rfl ?_
          iterate 2 refine VX.meek rfl ?_
          first | refine VX.slcO rfl rfl rfl rfl rfl rfl rfl rfl (by first | rfl | exact (Int.toNat_of_nonneg (by omega)).symm) (by first | rfl | exact (Int.toNat_of_nonneg (by omega)).symm) (by omega) (by omega) (by omega) ?_ | refine VX.slcI rfl rfl rfl rfl rfl rfl rfl (by first | rfl | exact (Int.toNat_of_nonneg (by omega)).symm) (by first | rfl | exact (Int.toNat_of_nonneg (by omega)).symm) (by omega) (by omega) (by omega) ?_ | refine VX.meek rfl ?_
          refine VX.clearO rfl rfl rfl rfl rfl rfl au_sR rfl ?_
          refine VX.nil ?_
          refine VC.reg tab_ok [] rfl ?_
          iterate 2 refine VX.meek rfl ?_
          first | refine VX.slcO0 rfl rfl rfl rfl rfl rfl (by first | rfl | exact (Int.toNat_of_nonneg (by omega)).symm) (by omega) ?_ | refine VX.slcI0 rfl rfl rfl rfl rfl (by first | rfl | exact (Int.toNat_of_nonneg (by omega)).symm) (by omega) ?_ | refine VX.meek rfl ?_
          refine VX.meek rfl ?_
          refine VX.nil ?_
          refine VC.ret ?_
          rw [hje] at h3; refine ⟨trivial, _, rfl, _, _, ?_, by rw [hje], by rw [hje]; exact congrArg (fun q => [Blk.c q]) (clear_tailI h3)⟩; exact pureL_putL (pureL_append (encL_pure cI _) htl) (pureL_zeros rfl)
      · (try simp only [au_std] at hc2)
        refine VC.skip ?_
        refine VC.regN tab_ok [] rfl ?_
        refine VX.meek rfl ?_
        first | refine VX.add rfl rfl (by omega) ?_ | refine VX.meek rfl ?_
        refine VX.meek rfl ?_
        refine VX.nil ?_
        refine ⟨k + 1, by (try dsimp only); omega, ?_, (by refine ⟨[some 0], rfl, by first | trivial | decide, by first | rfl | (simp only [noO, Bool.and_true, Bool.and_eq_true]; first | assumption | (refine ⟨?_, ?_⟩ <;> assumption)) | (simp only [noO, *, Bool.and_true, Bool.true_and, Bool.and_self]; done), ?_, ?_⟩ <;> (repeat' first | exact trivial | exact CvB_n | exact CvB_d | exact CvB_o rfl | refine CvE_app ?_ ?_ | refine CvE_cons rfl ?_ ?_ | refine CvH_cons ?_ ?_ | refine CvB_c rfl ?_ | fail) <;> first | exact au_v | (exact CvL.pure (hpl _)))⟩
        exact ⟨by omega, by omega, fun i h1 h2 => if h : i < k then hz i h1 h else by (obtain rfl : i = k := by omega); exact hc2⟩
    · (try simp only [au_std] at hc1)
      refine VC.exit ?_
      refine VC.reg tab_ok [] rfl ?_
      iterate 2 refine VX.meek rfl ?_
      refine VX.nil ?_
      refine VC.ret ?_
      have hce := comp_len h0 hk hz; rw [List.take_of_length_le (by omega)] at hce; exact ⟨trivial, _, rfl, tl, c, htl, by rw [hce], by rw [hce]⟩
theorem compact_n [Dr] (n : Nat) (l : List Int) (tl : List T) (c : Option Nat) (hn : l.length = n) (hl : n ≤ 35184372088832) (htl : T.pureL tl = true) : CallT Try.prog 62 [.slc 0 0 n 1 c] [.c (encL cI l ++ tl)]
    (fun t H' => ∃ tl' c', T.pureL tl' = true ∧ t = .slc 0 0 (comp l).length 1 c' ∧ H' = [.c (encL cI (comp l) ++ tl')]) := by subst hn; exact compact_t l tl c hl htl
def endsY (l : List Rect) : List Int := l.flatMap fun r => [r.Y, r.Y + r.H]
theorem endsY_len (l : List Rect) : (endsY l).length = 2 * l.length := by
  induction l with
  | nil => rfl
  | cons r l ih => simp only [endsY, List.flatMap_cons, List.length_append, List.length_cons, List.length_nil] at ih ⊢; omega
def ysOf (l : List Rect) : List Int := comp (sortI (endsY l))
theorem sortI_len (l : List Int) : (sortI l).length = l.length := by unfold sortI; exact List.length_mergeSort l
theorem edges_eq {l : List Rect} {k : Nat} {v : Vw} {tl : List T} (h : k < l.length) : CvL v (((encL cI (endsY (l.take k)) ++ tl).drop 0).take ((endsY (l.take k)).length * 1) ++ [I64 l[k]!.Y, I64 (l[k]!.Y + l[k]!.H)]) (encL cI (endsY (l.take (k + 1))) ++ []) := by
  refine CvL.eq ?_ (by rw [List.append_nil]; exact encL_pure cI _)
  rw [List.append_nil, List.drop_zero, show (endsY (l.take k)).length * 1 = (encL cI (endsY (l.take k))).length from by rw [encL_len, cI_sz], List.take_left, take_snoc h]
  unfold endsY
  rw [List.flatMap_append, encL_append]
  rfl
theorem edges_p [Dr] (l : List Rect) (hl : l.length ≤ 1048576) (hr : ∀ r ∈ l, rok r) : CallP Try.prog 44 [.islc (encL cR l) l.length none] (.islc (encL cI (ysOf l)) (ysOf l).length none) := by
  have hlen := sortI_len (endsY l)
  have hel := endsY_len l
  refine CallP.intro2 au_pu au_pu ?_
  refine CallT.intro tab_ok Try.func44 rfl (by kernel_rfl) (Nat.le_of_ble_eq_true rfl) ?_
  refine VC.reg tab_ok [] rfl ?_
  refine VX.meek rfl ?_
  refine VX.nil ?_
  refine VC.reg tab_ok [] rfl ?_
  iterate 2 refine VX.meek rfl ?_
  first | refine VX.mul rfl rfl (by omega) ?_ | refine VX.meek rfl ?_
  refine VX.mkS (a := 0) (b := 2 * l.length) rfl rfl rfl rfl rfl rfl rfl (by omega) (by omega) (by omega) (by dsimp only; omega) ?_
  refine VX.meek rfl ?_
  refine VX.nil ?_
  refine VC.seq ?_
  refine VC.reg tab_ok [] rfl ?_
  iterate 3 refine VX.meek rfl ?_
  refine VX.nil ?_
  refine VC.block ?_
  refine VC.loopS2 (σ1 := Nat) (σ2 := List T) (fun k _ => l.length - k) (fun k tl => k ≤ l.length ∧ T.pureL tl = true) (fun k _ => [(12, I64 k), (3, .slc 0 0 (endsY (l.take k)).length 1 none)]) (fun k tl => [.c (encL cI (endsY (l.take k)) ++ tl)]) [10, 11] rfl (0) (zeros (2 * l.length) [I64 0]) ?_ ?_ ?_
  · refine ⟨[some 0], rfl, by first | trivial | decide, by first | rfl | (simp only [noO, Bool.and_true, Bool.and_eq_true]; first | assumption | (refine ⟨?_, ?_⟩ <;> assumption)) | (simp only [noO, *, Bool.and_true, Bool.true_and, Bool.and_self]; done), ?_, ?_⟩ <;> (repeat' first | exact trivial | exact CvB_n | exact CvB_d | exact CvB_o rfl | refine CvE_app ?_ ?_ | refine CvE_cons rfl ?_ ?_ | refine CvH_cons ?_ ?_ | refine CvB_c rfl ?_ | fail) <;> first | exact au_v | (exact CvL.pure (pureL_zeros rfl))
  · exact ⟨by omega, pureL_zeros rfl⟩
  rintro k tl ⟨hk, htl⟩
  refine VC.reg tab_ok [] rfl ?_
  refine VX.meek rfl ?_
  refine VX.nil ?_
  refine VC.seq ?_
  refine VC.cond rfl (fun hc0 => ?_) (fun hc0 => ?_)
  · (try simp only [au_std] at hc0); have hr0 := hr l[k]! (List.mem_iff_getElem?.2 ⟨k, getE (by omega)⟩); unfold rok at hr0; have hek := endsY_len (l.take k); have htk : (l.take k).length = k := (by rw [List.length_take]; omega); have hek1 := endsY_len (l.take (k + 1)); have htk1 : (l.take (k + 1)).length = k + 1 := (by rw [List.length_take]; omega)
    refine VC.skip ?_
    refine VC.seq ?_
    refine VC.block ?_
    refine VC.reg tab_ok [] rfl ?_
    first | refine VX.idxI rfl rfl rfl rfl rfl rfl (by omega) ?_ | refine VX.idxO0 rfl rfl rfl rfl rfl rfl rfl (by omega) ?_ | refine VX.idxO0 rfl rfl rfl rfl rfl rfl au_z (by omega) ?_ | refine VX.idxO rfl rfl rfl rfl rfl rfl rfl (by omega) ?_ | refine VX.idxI rfl rfl rfl rfl rfl au_z (by omega) ?_ | refine VX.idxO rfl rfl rfl rfl rfl rfl au_z (by omega) ?_ | refine VX.meek rfl ?_
    first | refine VX.meek rfl ?_ | refine VX.loadI rfl rfl au_l ?_ | refine VX.loadP rfl rfl rfl au_l ?_
    refine VX.new rfl rfl ?_
    refine VX.store rfl rfl rfl rfl rfl au_sR rfl ?_
    refine VX.nil ?_
    refine VC.regN tab_ok [24] rfl ?_
    iterate 2 refine VX.meek rfl ?_
    first | refine VX.meek rfl ?_ | refine VX.loadI rfl rfl au_l ?_ | refine VX.loadP rfl rfl rfl au_l ?_
    refine VX.meek rfl ?_
    first | refine VX.meek rfl ?_ | refine VX.loadI rfl rfl au_l ?_ | refine VX.loadP rfl rfl rfl au_l ?_
    refine VX.meek rfl ?_
    first | refine VX.meek rfl ?_ | refine VX.loadI rfl rfl au_l ?_ | refine VX.loadP rfl rfl rfl au_l ?_
    first | refine VX.add rfl rfl (by omega) ?_ | refine VX.meek rfl ?_
    refine VX.newI rfl rfl ?_
    first | refine VX.appendNil rfl rfl rfl rfl rfl rfl au_sR au_sR au_sR ?_ | refine VX.append rfl rfl rfl rfl rfl rfl rfl rfl au_sR au_sR au_sR au_sR au_sR ?_
    refine VX.meek rfl ?_
    refine VX.nil ?_
    refine VC.regN tab_ok [] rfl ?_
    first | refine VX.add rfl rfl (by omega) ?_ | refine VX.meek rfl ?_
    refine VX.meek rfl ?_
    refine VX.nil ?_
    refine ⟨k + 1, [], by (try dsimp only); omega, ?_, (by refine ⟨[some 2], rfl, by first | trivial | decide, by first | rfl | (simp only [noO, Bool.and_true, Bool.and_eq_true]; first | assumption | (refine ⟨?_, ?_⟩ <;> assumption)) | (simp only [noO, *, Bool.and_true, Bool.true_and, Bool.and_self]; done), ?_, ?_⟩ <;> (repeat' first | exact trivial | exact CvB_n | exact CvB_d | exact CvB_o rfl | refine CvE_app ?_ ?_ | refine CvE_cons rfl ?_ ?_ | refine CvH_cons ?_ ?_ | refine CvB_c rfl ?_ | fail) <;> first | exact au_v | (first | exact Cv.slcE rfl (by omega) (.inl rfl) | exact edges_eq (by omega)))⟩
    exact ⟨by omega, rfl⟩
  · (try simp only [au_std] at hc0); obtain rfl : k = l.length := (by omega); rw [List.take_length]
    refine VC.exit ?_
    refine VC.reg tab_ok [] rfl ?_
    refine VX.meek rfl ?_
    refine VX.callT rfl rfl (CallT.frame (sortI_any (endsY l) tl (by omega) htl) [0] rfl au_ci au_ci ?_)
    rintro _ _ ⟨rfl, rfl⟩
    refine frK au_co au_co ?_
    refine VX.nil ?_
    refine VC.reg tab_ok [] rfl ?_
    refine VX.meek rfl ?_
    refine VX.callT rfl rfl (CallT.frame (compact_n (endsY l).length (sortI (endsY l)) tl none hlen (by omega) htl) [0] rfl au_ci au_ci ?_)
    rintro _ _ ⟨tl', c', h1, rfl, rfl⟩
    refine frK au_co au_co ?_
    refine VX.meek rfl ?_
    refine VX.nil ?_
    refine VC.ret ?_
    exact ⟨trivial, _, rfl, Cv.fslcA ⟨rfl, by simp⟩ (CvL.pure (encL_pure cI _))⟩
end
section
open Go.RowKit Go.Sort
set_option maxRecDepth 10000
theorem spans_t [Dr] (n : Nat) (cs : List T) (c : Option Nat) : CallT Try.prog 48 [.slc 0 0 n 4 c] [.c cs] (fun t H' => t = .clo 64 [] [.iptr [.slc 0 0 n 4 c] 0] ∧ H' = [.c cs]) := by
  refine CallT.intro tab_ok Try.func48 rfl (by kernel_rfl) (Nat.le_of_ble_eq_true rfl) ?_
  refine VC.reg tab_ok [1] rfl ?_
  refine VX.newI rfl rfl ?_
  refine VX.meek rfl ?_
  refine VX.nil ?_
  refine VC.reg tab_ok [] rfl ?_
  iterate 2 refine VX.meek rfl ?_
  refine VX.nil ?_
  refine VC.ret ?_
  exact ⟨trivial, _, rfl, rfl, rfl⟩
theorem spansGo_step {a to : Int} {row : List Rect} {i : Nat} (hi : i < row.length) (h : row[i]!.X ≤ to) : spansGo a to (row.drop i) = spansGo a (if row[i]!.X + row[i]!.W > to then row[i]!.X + row[i]!.W else to) (row.drop (i + 1)) := by
  have hm : (if row[i]!.X + row[i]!.W > to then row[i]!.X + row[i]!.W else to) = max to (row[i]!.X + row[i]!.W) := by split <;> omega
  rw [hm]
  rw [List.drop_eq_getElem_cons hi]
  rw [getElem!_pos row i hi] at h ⊢
  rw [spansGo, if_pos h]
theorem spansGo_stop {a to : Int} {row : List Rect} {i : Nat} (h : i < row.length → to < row[i]!.X) : spansGo a to (row.drop i) = (a, to) :: spansF (row.drop i) := by
  by_cases hi : i < row.length
  · have := h hi
    rw [List.drop_eq_getElem_cons hi]
    rw [getElem!_pos row i hi] at this
    rw [spansGo, if_neg (by omega)]
    rfl
  · rw [List.drop_of_length_le (by omega)]; rfl
theorem spansF_at {row : List Rect} {i : Nat} (hi : i < row.length) : spansF (row.drop i) = spansGo row[i]!.X (row[i]!.X + row[i]!.W) (row.drop (i + 1)) := by
  rw [List.drop_eq_getElem_cons hi, getElem!_pos row i hi]; rfl
theorem spans1_t [Dr] (J : Nat → Hp → Prop) (b br : Nat) (row : List Rect) (tl : List T) (c : Option Nat) (hr : ∀ r ∈ row, rok r) (hn : row.length ≤ 1048576)
    (hJrow : ∀ k H, J k H → lookH H br = some (encL cR row ++ tl)) (hJnew : ∀ k H cs, J k H → J k (H ++ [.c cs]))
    (hy : ∀ k H, J k H → ∀ s, (spansF row)[k]? = some s → YieldT Try.prog b [.agg [I64 s.1, I64 s.2]] H (fun t H' => t = BL true ∧ J (k + 1) H')) (H0 : Hp) (h0 : J 0 H0) :
    CallT Try.prog 64 [.yl b, .iptr [.slc br 0 row.length 4 c] 0] H0 (fun _ H' => J (spansF row).length H') := by
  have hrow : ∀ i, i < row.length → rok row[i]! := fun i hi => hr _ (List.mem_iff_getElem?.2 ⟨i, getE hi⟩)
  refine CallT.intro tab_ok Try.func64 rfl (by kernel_rfl) (Nat.le_of_ble_eq_true rfl) ?_
  refine VC.reg tab_ok [] rfl ?_
  refine VX.meek rfl ?_
  refine VX.nil ?_
  refine VC.block ?_
  refine VC.loopH2 (σ1 := Nat) (σ2 := Nat) (fun i _ => row.length - i) (fun i k H => i ≤ row.length ∧ J k H ∧ ∃ done, done.length = k ∧ spansF row = done ++ spansF (row.drop i)) (fun i k => [(3, I64 i)]) [0, 1] rfl (0) (0) (au_sub) (⟨by simp, h0, [], rfl, by simp⟩) ?_
  rintro i k H ⟨hi, hJ, done, hd, hs⟩
  refine VC.seq ?_
  refine VC.reg tab_ok [] rfl ?_
  refine VX.meek rfl ?_
  first | refine VX.meek rfl ?_ | refine VX.loadI rfl rfl au_l ?_ | refine VX.loadP rfl rfl rfl au_l ?_ | refine VX.loadP rfl rfl hrw2 rfl ?_ | refine VX.loadP rfl rfl hrw2 au_l ?_ | refine VX.loadP rfl rfl hrw rfl ?_ | refine VX.loadP rfl rfl hrw au_l ?_
  iterate 2 refine VX.meek rfl ?_
  refine VX.nil ?_
  refine VC.cond rfl (fun hc0 => ?_) (fun hc0 => ?_)
  · (try simp only [au_std] at hc0); have hir : i < row.length := (by omega); have hq := hrow i hir; unfold rok at hq; have hrw := hJrow k H hJ
    refine VC.skip ?_
    refine VC.block ?_
    refine VC.drw tab_ok [] [_, _, _, _, _, _, _, _, _, _, _, _, _, _, _, _, _, _] rfl (by kernel_rfl) (by kernel_rfl) ?_
    first | refine VX.meek rfl ?_ | refine VX.loadI rfl rfl au_l ?_ | refine VX.loadP rfl rfl rfl au_l ?_ | refine VX.loadP rfl rfl hrw2 rfl ?_ | refine VX.loadP rfl rfl hrw2 au_l ?_ | refine VX.loadP rfl rfl hrw rfl ?_ | refine VX.loadP rfl rfl hrw au_l ?_
    refine VX.meek rfl ?_
    first | refine VX.idxI rfl rfl rfl rfl rfl rfl (by omega) ?_ | refine VX.idxO0 rfl rfl rfl rfl rfl rfl rfl (by omega) ?_ | refine VX.idxO0 rfl rfl rfl rfl rfl rfl au_z (by omega) ?_ | refine VX.idxO rfl rfl rfl rfl rfl rfl rfl (by omega) ?_ | refine VX.idxI rfl rfl rfl rfl rfl au_z (by omega) ?_ | refine VX.idxO rfl rfl rfl rfl rfl rfl au_z (by omega) ?_ | refine VX.meek rfl ?_
    refine VX.meek rfl ?_
    first | refine VX.meek rfl ?_ | refine VX.loadI rfl rfl au_l ?_ | refine VX.loadP rfl rfl rfl au_l ?_ | refine VX.loadP rfl rfl hrw2 rfl ?_ | refine VX.loadP rfl rfl hrw2 au_l ?_ | refine VX.loadP rfl rfl hrw rfl ?_ | refine VX.loadP rfl rfl hrw au_l ?_
    first | refine VX.meek rfl ?_ | refine VX.loadI rfl rfl au_l ?_ | refine VX.loadP rfl rfl rfl au_l ?_ | refine VX.loadP rfl rfl hrw2 rfl ?_ | refine VX.loadP rfl rfl hrw2 au_l ?_ | refine VX.loadP rfl rfl hrw rfl ?_ | refine VX.loadP rfl rfl hrw au_l ?_
    refine VX.meek rfl ?_
    first | refine VX.idxI rfl rfl rfl rfl rfl rfl (by omega) ?_ | refine VX.idxO0 rfl rfl rfl rfl rfl rfl rfl (by omega) ?_ | refine VX.idxO0 rfl rfl rfl rfl rfl rfl au_z (by omega) ?_ | refine VX.idxO rfl rfl rfl rfl rfl rfl rfl (by omega) ?_ | refine VX.idxI rfl rfl rfl rfl rfl au_z (by omega) ?_ | refine VX.idxO rfl rfl rfl rfl rfl rfl au_z (by omega) ?_ | refine VX.meek rfl ?_
    refine VX.meek rfl ?_
    first | refine VX.meek rfl ?_ | refine VX.loadI rfl rfl au_l ?_ | refine VX.loadP rfl rfl rfl au_l ?_ | refine VX.loadP rfl rfl hrw2 rfl ?_ | refine VX.loadP rfl rfl hrw2 au_l ?_ | refine VX.loadP rfl rfl hrw rfl ?_ | refine VX.loadP rfl rfl hrw au_l ?_
    first | refine VX.meek rfl ?_ | refine VX.loadI rfl rfl au_l ?_ | refine VX.loadP rfl rfl rfl au_l ?_ | refine VX.loadP rfl rfl hrw2 rfl ?_ | refine VX.loadP rfl rfl hrw2 au_l ?_ | refine VX.loadP rfl rfl hrw rfl ?_ | refine VX.loadP rfl rfl hrw au_l ?_
    refine VX.meek rfl ?_
    first | refine VX.idxI rfl rfl rfl rfl rfl rfl (by omega) ?_ | refine VX.idxO0 rfl rfl rfl rfl rfl rfl rfl (by omega) ?_ | refine VX.idxO0 rfl rfl rfl rfl rfl rfl au_z (by omega) ?_ | refine VX.idxO rfl rfl rfl rfl rfl rfl rfl (by omega) ?_ | refine VX.idxI rfl rfl rfl rfl rfl au_z (by omega) ?_ | refine VX.idxO rfl rfl rfl rfl rfl rfl au_z (by omega) ?_ | refine VX.meek rfl ?_
    refine VX.meek rfl ?_
    first | refine VX.meek rfl ?_ | refine VX.loadI rfl rfl au_l ?_ | refine VX.loadP rfl rfl rfl au_l ?_ | refine VX.loadP rfl rfl hrw2 rfl ?_ | refine VX.loadP rfl rfl hrw2 au_l ?_ | refine VX.loadP rfl rfl hrw rfl ?_ | refine VX.loadP rfl rfl hrw au_l ?_
    first | refine VX.add rfl rfl (by omega) ?_ | refine VX.meek rfl ?_
    refine VX.meek rfl ?_
    refine VX.new rfl rfl ?_
    refine VX.nil ?_
    refine VX.storeE (H2 := H ++ [.c [I64 row[i]!.X, I64 (row[i]!.X + row[i]!.W)]]) rfl rfl rfl (lookH_new _ _) rfl (Nat.le_of_ble_eq_true rfl) rfl (setH_new _ _ _) ?_
    refine VX.nil ?_
    refine VC.seq ?_
    refine VC.reg tab_ok [] rfl ?_
    refine VX.meek rfl ?_
    first | refine VX.add rfl rfl (by omega) ?_ | refine VX.meek rfl ?_
    refine VX.meek rfl ?_
    refine VX.nil ?_
    refine VC.block ?_
    refine VC.loopH2 (σ1 := Nat) (σ2 := Int) (fun i' _ => row.length - i') (fun i' to H' => i < i' ∧ i' ≤ row.length ∧ -1048576 ≤ to ∧ to ≤ 1048576 ∧ H' = H ++ [.c [I64 row[i]!.X, I64 to]] ∧ spansGo row[i]!.X to (row.drop i') = spansF (row.drop i)) (fun i' to => [(3, I64 i')]) [0, 1, 4] rfl ((i + 1)) ((row[i]!.X + row[i]!.W)) (au_sub) (⟨by omega, by omega, by omega, by omega, rfl, (spansF_at hir).symm⟩) ?_
    rintro i' to _ ⟨hi1, hi2, ht1, ht2, rfl, hgo⟩
    refine VC.seq ?_
    refine VC.drw tab_ok [] [_, _, _, _, _, _, _, _, _, _, _, _, _, _] rfl (by kernel_rfl) (by kernel_rfl) ?_
    refine VX.meek rfl ?_
    first | refine VX.meek rfl ?_ | refine VX.loadI rfl rfl au_l ?_ | refine VX.loadP rfl rfl rfl au_l ?_ | refine VX.loadP rfl rfl hrw2 rfl ?_ | refine VX.loadP rfl rfl hrw2 au_l ?_ | refine VX.loadP rfl rfl hrw rfl ?_ | refine VX.loadP rfl rfl hrw au_l ?_
    iterate 3 refine VX.meek rfl ?_
    refine' VX.merge (d := 41) [_, _, _, _, _, _, _, _, _] rfl ?_ rfl ?_
    rotate_left
    · refine VX.guard rfl rfl (fun hb4_4 => ?_) (fun hb4_4 => ?_)
      · have ghb4_4 := hb4_4
        try simp only [au_std, Bool.not_true, Bool.not_false] at ghb4_4
        have hrw2 := lookH_old (x := .c [I64 row[i]!.X, I64 to]) hrw
        first | refine VX.meek rfl ?_ | refine VX.loadI rfl rfl au_l ?_ | refine VX.loadP rfl rfl rfl au_l ?_ | refine VX.loadP rfl rfl hrw2 rfl ?_ | refine VX.loadP rfl rfl hrw2 au_l ?_ | refine VX.loadP rfl rfl hrw rfl ?_ | refine VX.loadP rfl rfl hrw au_l ?_
        refine VX.guardT rfl rfl hb4_4 ?_
        refine VX.meek rfl ?_
        refine VX.guardT rfl rfl hb4_4 ?_
        first | refine VX.idxI rfl rfl rfl rfl rfl rfl (by omega) ?_ | refine VX.idxO0 rfl rfl rfl rfl rfl rfl rfl (by omega) ?_ | refine VX.idxO0 rfl rfl rfl rfl rfl rfl au_z (by omega) ?_ | refine VX.idxO rfl rfl rfl rfl rfl rfl rfl (by omega) ?_ | refine VX.idxI rfl rfl rfl rfl rfl au_z (by omega) ?_ | refine VX.idxO rfl rfl rfl rfl rfl rfl au_z (by omega) ?_ | refine VX.meek rfl ?_
        refine VX.guardT rfl rfl hb4_4 ?_
        refine VX.meek rfl ?_
        refine VX.guardT rfl rfl hb4_4 ?_
        first | refine VX.meek rfl ?_ | refine VX.loadI rfl rfl au_l ?_ | refine VX.loadP rfl rfl rfl au_l ?_ | refine VX.loadP rfl rfl hrw2 rfl ?_ | refine VX.loadP rfl rfl hrw2 au_l ?_ | refine VX.loadP rfl rfl hrw rfl ?_ | refine VX.loadP rfl rfl hrw au_l ?_
        refine VX.guardT rfl rfl hb4_4 ?_
        refine VX.meek rfl ?_
        refine VX.guardT rfl rfl hb4_4 ?_
        refine VX.loadP rfl rfl (lookH_new _ _) rfl ?_
        refine VX.guardT rfl rfl hb4_4 ?_
        refine VX.meek rfl ?_
        refine VX.pickA rfl (fun _ => rfl) ?_
        exact VX.nil ⟨rfl, rfl⟩
      · refine VX.guardF rfl rfl hb4_4 ?_
        iterate 6 refine VX.guardF rfl rfl hb4_4 ?_
        exact VX.pickA rfl (fun h => absurd (h.symm.trans hb4_4) (by decide)) (VX.nil ⟨rfl, rfl⟩)
    iterate 2 refine VX.nil ?_
    refine VC.cond rfl (fun hc1 => ?_) (fun hc1 => ?_)
    · (try simp only [au_std] at hc1); have hq2 := hrow i' (by omega); unfold rok at hq2; have hrw2 := lookH_old (x := .c [I64 row[i]!.X, I64 to]) hrw
      refine VC.skip ?_
      refine VC.seq ?_
      refine VC.block ?_
      refine VC.drwN tab_ok [] [_, _, _, _, _, _, _, _, _, _, _, _, _, _, _] rfl (by kernel_rfl) (by kernel_rfl) ?_
      refine VX.meek rfl ?_
      refine VX.loadP rfl rfl (lookH_new _ _) rfl ?_
      first | refine VX.meek rfl ?_ | refine VX.loadI rfl rfl au_l ?_ | refine VX.loadP rfl rfl rfl au_l ?_ | refine VX.loadP rfl rfl hrw2 rfl ?_ | refine VX.loadP rfl rfl hrw2 au_l ?_ | refine VX.loadP rfl rfl hrw rfl ?_ | refine VX.loadP rfl rfl hrw au_l ?_
      refine VX.meek rfl ?_
      first | refine VX.idxI rfl rfl rfl rfl rfl rfl (by omega) ?_ | refine VX.idxO0 rfl rfl rfl rfl rfl rfl rfl (by omega) ?_ | refine VX.idxO0 rfl rfl rfl rfl rfl rfl au_z (by omega) ?_ | refine VX.idxO rfl rfl rfl rfl rfl rfl rfl (by omega) ?_ | refine VX.idxI rfl rfl rfl rfl rfl au_z (by omega) ?_ | refine VX.idxO rfl rfl rfl rfl rfl rfl au_z (by omega) ?_ | refine VX.meek rfl ?_
      refine VX.meek rfl ?_
      first | refine VX.meek rfl ?_ | refine VX.loadI rfl rfl au_l ?_ | refine VX.loadP rfl rfl rfl au_l ?_ | refine VX.loadP rfl rfl hrw2 rfl ?_ | refine VX.loadP rfl rfl hrw2 au_l ?_ | refine VX.loadP rfl rfl hrw rfl ?_ | refine VX.loadP rfl rfl hrw au_l ?_
      first | refine VX.meek rfl ?_ | refine VX.loadI rfl rfl au_l ?_ | refine VX.loadP rfl rfl rfl au_l ?_ | refine VX.loadP rfl rfl hrw2 rfl ?_ | refine VX.loadP rfl rfl hrw2 au_l ?_ | refine VX.loadP rfl rfl hrw rfl ?_ | refine VX.loadP rfl rfl hrw au_l ?_
      refine VX.meek rfl ?_
      first | refine VX.idxI rfl rfl rfl rfl rfl rfl (by omega) ?_ | refine VX.idxO0 rfl rfl rfl rfl rfl rfl rfl (by omega) ?_ | refine VX.idxO0 rfl rfl rfl rfl rfl rfl au_z (by omega) ?_ | refine VX.idxO rfl rfl rfl rfl rfl rfl rfl (by omega) ?_ | refine VX.idxI rfl rfl rfl rfl rfl au_z (by omega) ?_ | refine VX.idxO rfl rfl rfl rfl rfl rfl au_z (by omega) ?_ | refine VX.meek rfl ?_
      refine VX.meek rfl ?_
      first | refine VX.meek rfl ?_ | refine VX.loadI rfl rfl au_l ?_ | refine VX.loadP rfl rfl rfl au_l ?_ | refine VX.loadP rfl rfl hrw2 rfl ?_ | refine VX.loadP rfl rfl hrw2 au_l ?_ | refine VX.loadP rfl rfl hrw rfl ?_ | refine VX.loadP rfl rfl hrw au_l ?_
      first | refine VX.add rfl rfl (by omega) ?_ | refine VX.meek rfl ?_
      first | refine VX.maxX rfl rfl ?_ | refine VX.meek rfl ?_
      refine VX.meek rfl ?_
      refine VX.nil ?_
      refine VX.storeE (H2 := H ++ [.c [I64 row[i]!.X, I64 (if row[i']!.X + row[i']!.W > to then row[i']!.X + row[i']!.W else to)]]) rfl rfl rfl (lookH_new _ _) rfl (Nat.le_of_ble_eq_true rfl) rfl (setH_new _ _ _) ?_
      refine VX.nil ?_
      refine VC.regN tab_ok [] rfl ?_
      refine VX.meek rfl ?_
      first | refine VX.add rfl rfl (by omega) ?_ | refine VX.meek rfl ?_
      refine VX.meek rfl ?_
      refine VX.nil ?_
      exact ⟨i' + 1, (if row[i']!.X + row[i']!.W > to then row[i']!.X + row[i']!.W else to), by (try dsimp only); omega, ⟨by omega, by omega, by split <;> omega, by split <;> omega, rfl, (spansGo_step (by omega) (by omega)).symm.trans hgo⟩, au_sub⟩
    · (try simp only [au_std] at hc1); have hs2 : spansF row = done ++ (row[i]!.X, to) :: spansF (row.drop i') := (by rw [hs, ← hgo, spansGo_stop (fun h => hc1 (by omega))])
      refine VC.exit ?_
      refine VC.reg tab_ok [] rfl ?_
      refine VX.meek rfl ?_
      refine VX.loadP rfl rfl (lookH_new _ _) rfl ?_
      refine VX.yield rfl rfl ((hy k _ (hJnew _ _ _ hJ) (row[i]!.X, to) (by rw [hs2, List.getElem?_append_right (by omega)]; simp [hd])).mono ?_); rintro _ _ ⟨rfl, hJ'⟩
      refine VX.meek rfl ?_
      refine VX.nil ?_
      refine VC.cond rfl (fun hc2 => ?_) (fun hc2 => ?_)
      · exact absurd hc2 (by decide)
      · (try simp only [au_std] at hc2)
        refine VC.skip ?_
        exact ⟨i', k + 1, by (try dsimp only); omega, ⟨by omega, hJ', done ++ [(row[i]!.X, to)], by simp [hd], by rw [hs2]; simp⟩, au_sub⟩
  · (try simp only [au_std] at hc0)
    refine VC.exit ?_
    refine ⟨trivial, _, rfl, ?_⟩; have hi2 : row.drop i = [] := List.drop_of_length_le (by simp at hc0; omega); rw [hs, hi2]; simp [spansF, hd]; exact hJ
end
end Go.Proofs.Ytnngelggbljchaa
