/-
  WALKS of layer 56's document: leave.
-/
import Derived.Test.YtiefpodmdpnppaaDoorCelR
import Derived.Deep.DeepCutAuto
namespace Go.Proofs.YtiefpodmdpnppaaDoor
open Go.RowKit
attribute [local go_sem ↓] Go.wp_at_zero Go.wp_at_succ

structure Ref where
  w : Nat
  h : Nat
  most : Nat
  rows : List (List UInt8)
  kept : List (List UInt8)
  x : Nat
  y : Nat
  begun : Nat
  args : List UInt8
def Ref.vals (M : Ref) (vr vk : Value) : Array Value :=
  #[.int .i64 M.w, .int .i64 M.h, .int .i64 M.most, vr, vk, .int .i64 M.x, .int .i64 M.y, .int .i64 M.begun, .string (bs M.args)]
/-- kept lines lie elsewhere than the rows -/
def Apart (vr vk : Value) (n : Nat) : Prop := n = 0 ∨ ∀ g, vr.ownBlock = some g → vk.ownBlock ≠ some g
/-- the document's screen, as a value; its rows lie in memory of the call's own (from block B on), or anywhere -/
def RV (w : World) (v : Value) (M : Ref) : Prop :=
  ∃ vr vk, v = .agg (M.vals vr vk) ∧ RdT w 9 vr M.rows.length (M.rows.map strV) ∧ RdT w 9 vk M.kept.length (M.kept.map strV)
def RO (w : World) (B : Nat) (v : Value) (M : Ref) : Prop :=
  ∃ vr vk, v = .agg (M.vals vr vk) ∧ Own w B 9 1 vr M.rows.length (M.rows.map strV) ∧ Own w B 9 1 vk M.kept.length (M.kept.map strV) ∧ Apart vr vk M.kept.length
theorem RO.rv {w : World} {B : Nat} {v : Value} {M : Ref} (h : RO w B v M) : RV w v M := by
  obtain ⟨vr, vk, h1, h2, h3, _⟩ := h
  exact ⟨vr, vk, h1, h2.rdt, h3.rdt⟩
theorem RV.next {w w' : World} {v : Value} {M : Ref} (h : RV w v M) (hb : Below w.heap.size w w') : RV w' v M := by
  obtain ⟨vr, vk, h1, h2, h3⟩ := h
  exact ⟨vr, vk, h1, h2.next hb, h3.next hb⟩
def zeroRef : Ref := ⟨0, 0, 0, [], [], 0, 0, 0, []⟩
def ROPost (w : World) (M : Ref) (e : Ending) (w' : World) : Prop := ∃ v, e = .returned v ∧ RO w' w.heap.size v M ∧ Below w.heap.size w w'
def RVPost (w : World) (M : Ref) (e : Ending) (w' : World) : Prop := ∃ v, e = .returned v ∧ RV w' v M ∧ Below w.heap.size w w'

def Ref.leave (M : Ref) : Ref :=
  { M with kept := if M.most < M.kept.length + 1 then (M.kept ++ [M.rows.headD []]).drop (M.kept.length + 1 - M.most) else M.kept ++ [M.rows.headD []], rows := M.rows.tail }

/-- a step of a region: an append to a slice of the call's own -/
theorem step_app {P : Program} {w : World} {ops : Array Oper} {o : Oper} {a : Act} {K : Act → World → Prop} {Q : Exit → Act → World → Prop} {E : Prop} (hgd : o.guard = none) (s x : Operand) (t tx : TypeId)
    (ho : o.op = .call { callee := .builtin .append, args := #[s, x], argTypes := #[t, tx] })
    (B : Nat) (e : TypeId) (i : TypeInfo) (z : Value) (k bytes : Nat) (ht : P.underlying t = some (.slice e)) (hi : P.info? e = some i) (hz : i.zero = some z)
    (hsize : i.size = k) (hby : i.bytes = bytes) (hzs : z.cells.size = k)
    (n : Nat) (xs : List Value) (m : Nat) (news : List Value) (h63 : n + m ≤ maxLen) (hbytes : (n + m) * bytes ≤ 140737488355328) (hB : B ≤ w.heap.size)
    (hown : Own w B e k (a.eval s) n xs) (hs : Src P k tx (a.eval x) m news w)
    (h : ∀ v' w', Own w' B e k v' (n + m) (xs ++ news) → AppRow w w' (a.eval s) e → Below B w w' → K (a.put o.dst v') w') :
    if Region.wanted o (yielded ops a.tmps) = true then Oper.wp P o a w K Q else E := by
  have hw : Region.wanted o (yielded ops a.tmps) = true := by simp [Region.wanted, hgd]
  rw [if_pos hw]
  obtain ⟨v', w', hr, h2, h3, h4, h5⟩ := run_app (P := P) w B t tx o.type e i z k bytes ht hi hz hsize hby hzs (a.eval s) n xs hown (a.eval x) m news hs h63 hbytes hB
  unfold Oper.wp execOp
  simp only [ho, resolve, invoke, builtin, Sem.run_bind, Sem.run_pure, Result.andThen_ok, List.map_toArray, List.map_cons, List.map_nil, hr]
  exact h v' w' h2 h3 h4

theorem below_alloc' {B : Nat} {a w : World} (h : Below B a w) (hB : B ≤ a.heap.size) (o : Obj) : Below B a (w.alloc o) := h.alloc (Nat.le_trans hB h.size) o
/-- APPEND to an empty slice without room: nothing of what was there changes -/
theorem run_appE {P : Program} (w : World) (B : Nat) (t tx ty e : TypeId) (i : TypeInfo) (z : Value) (k bytes : Nat) (ht : P.underlying t = some (.slice e)) (hi : P.info? e = some i) (hz : i.zero = some z)
    (hsize : i.size = k) (hby : i.bytes = bytes) (hzs : z.cells.size = k)
    (b o : Nat) (x : Value) (m : Nat) (news : List Value) (hs : Src P k tx x m news w)
    (h63 : m ≤ maxLen) (hbytes : m * bytes ≤ 140737488355328) (hB : B ≤ w.heap.size) :
    ∃ v' w', (Builtin.append_ #[t, tx] ty #[.slice (some ⟨b, o, none⟩) 0 0, x]).run P w = .ok v' w' ∧ Own w' B e k v' m news ∧ Below w.heap.size w w' ∧ (v'.ownBlock = some b ∨ v'.ownBlock = some w.heap.size) := by
  have hown : Own w w.heap.size e k (.slice (some ⟨b, o, none⟩) 0 0) 0 [] := ⟨by simp, Or.inl ⟨_, rfl, rfl, Or.inr ⟨_, _, rfl⟩⟩⟩
  obtain ⟨v', w', hr, h2, h3, h4, h5⟩ := run_app (P := P) w w.heap.size t tx ty e i z k bytes ht hi hz hsize hby hzs _ 0 [] hown x m news hs (by omega) (by simpa using hbytes) (Nat.le_refl _)
  rw [Nat.zero_add, List.nil_append] at h2
  exact ⟨v', w', hr, h2.base hB, h4, h5⟩
def EmptySl (v : Value) : Prop := ∃ b o, v = .slice (some ⟨b, o, none⟩) 0 0
theorem EmptySl.mk (b o : Nat) : EmptySl (.slice (some ⟨b, o, none⟩) 0 0) := ⟨b, o, rfl⟩
theorem step_appE {P : Program} {w : World} {ops : Array Oper} {op : Oper} {a : Act} {K : Act → World → Prop} {Q : Exit → Act → World → Prop} {E : Prop} (hgd : op.guard = none) (s x : Operand) (t tx : TypeId)
    (ho : op.op = .call { callee := .builtin .append, args := #[s, x], argTypes := #[t, tx] })
    (B : Nat) (e : TypeId) (i : TypeInfo) (z : Value) (k bytes : Nat) (ht : P.underlying t = some (.slice e)) (hi : P.info? e = some i) (hz : i.zero = some z)
    (hsize : i.size = k) (hby : i.bytes = bytes) (hzs : z.cells.size = k) (m : Nat) (news : List Value)
    (h63 : m ≤ maxLen) (hbytes : m * bytes ≤ 140737488355328) (hB : B ≤ w.heap.size) (hv : EmptySl (a.eval s)) (hs : Src P k tx (a.eval x) m news w)
    (h : ∀ v' w', Own w' B e k v' m news → Below w.heap.size w w' → K (a.put op.dst v') w') :
    if Region.wanted op (yielded ops a.tmps) = true then Oper.wp P op a w K Q else E := by
  have hw : Region.wanted op (yielded ops a.tmps) = true := by simp [Region.wanted, hgd]
  rw [if_pos hw]
  obtain ⟨b, o, hv⟩ := hv
  obtain ⟨v', w', hr, h2, h3, h5⟩ := run_appE (P := P) w B t tx op.type e i z k bytes ht hi hz hsize hby hzs b o (a.eval x) m news hs h63 hbytes hB
  unfold Oper.wp execOp
  simp only [ho, resolve, invoke, builtin, Sem.run_bind, Sem.run_pure, Result.andThen_ok, List.map_toArray, List.map_cons, List.map_nil, hv, hr]
  exact h v' w' h2 h3
theorem wpList_appE {P : Program} {w : World} {ops : Array Oper} {rest : List Oper} {op : Oper} {a : Act} {Q : Exit → Act → World → Prop} (hgd : op.guard = none) (s x : Operand) (t tx : TypeId)
    (ho : op.op = .call { callee := .builtin .append, args := #[s, x], argTypes := #[t, tx] })
    (B : Nat) (e : TypeId) (i : TypeInfo) (z : Value) (k bytes : Nat) (ht : P.underlying t = some (.slice e)) (hi : P.info? e = some i) (hz : i.zero = some z)
    (hsize : i.size = k) (hby : i.bytes = bytes) (hzs : z.cells.size = k)
    (b o : Nat) (hv : a.eval s = .slice (some ⟨b, o, none⟩) 0 0) (xv : Value) (hx : a.eval x = xv) (m : Nat) (news : List Value) (hs : Src P k tx xv m news w)
    (h63 : m ≤ maxLen) (hbytes : m * bytes ≤ 140737488355328) (hB : B ≤ w.heap.size)
    (h : ∀ v' w', Own w' B e k v' m news → Below w.heap.size w w' → (v'.ownBlock = some b ∨ v'.ownBlock = some w.heap.size) → wpList P ops Q rest (a.put op.dst v') w') : wpList P ops Q (op :: rest) a w := by
  refine wpList_plain hgd fun K hK => ?_
  obtain ⟨v', w', hr, h2, h3, h5⟩ := run_appE (P := P) w B t tx op.type e i z k bytes ht hi hz hsize hby hzs b o xv m news hs h63 hbytes hB
  unfold Oper.wp execOp
  simp only [ho, resolve, invoke, builtin, Sem.run_bind, Sem.run_pure, Result.andThen_ok, List.map_toArray, List.map_cons, List.map_nil, hv, hx, hr]
  exact hK _ _ (h v' w' h2 h3 h5)
theorem keepL {w W w' : World} {rb ro : Nat} {v4 v3 vR : Value} (lb : w.heap.size < W.heap.size) (lr : rb < W.heap.size) (k4 : W.cell? ⟨w.heap.size, 4, none⟩ = some v4) (k3 : W.cell? ⟨w.heap.size, 3, none⟩ = some v3) (kr : W.cell? ⟨rb, ro, none⟩ = some vR) (h : Below W.heap.size W w') :
    w'.cell? ⟨w.heap.size, 4, none⟩ = some v4 ∧ w'.cell? ⟨w.heap.size, 3, none⟩ = some v3 ∧ w'.cell? ⟨rb, ro, none⟩ = some vR ∧ Hid (Below W.heap.size W w') :=
  ⟨(h.cell (p := ⟨w.heap.size, 4, none⟩) lb).trans k4, (h.cell (p := ⟨w.heap.size, 3, none⟩) lb).trans k3, (h.cell (p := ⟨rb, ro, none⟩) lr).trans kr, h⟩
theorem rd_blk {w : World} {h : Nat} {u : Value} {e : TypeId} {fz : Nat × Nat} (hb : w.heap[h]? = some (.cells #[u] e fz)) : Rd w 1 (.slice (some ⟨h, 0, none⟩) 1 1) 1 [u] := by
  have hlt : h < w.heap.size := by
    rcases Nat.lt_or_ge h w.heap.size with hlt | hge
    · exact hlt
    · rw [Array.getElem?_eq_none hge] at hb; cases hb
  refine ⟨by simp, _, 1, rfl, Nat.le_refl _, by decide, Or.inr ⟨_, _, rfl⟩, fun _ => ⟨_, _, rfl, hlt, fun j x hx => ?_⟩⟩
  rw [Nat.zero_add, cell_of_row _ _ _ _ _ _ hb]
  simpa using hx
theorem one_str (R : ByteArray) : ∀ u ∈ [Value.string R], u.oneCell' = true := by
  intro u hu
  simp at hu
  subst hu
  rfl
theorem Rd.from {P : Program} {w : World} {e t : TypeId} {v : Value} {n : Nat} {xs : List Value} (h : Rd w 1 v n xs) (ht : P.underlying t = some (.slice e)) (hz : ∀ w, (Go.sizeOf e).run P w = .ok 1 w) (l : Nat) (hl : l ≤ n) :
    ∃ A c, (∀ W, (Instr.slice t v (some (.int .i64 (l : Int))) none none).run P W = .ok (.slice A (n - l) c) W) ∧ Rd w 1 (.slice A (n - l) c) (n - l) (xs.drop l) := by
  have ht' : P.underlying t = some (.slice (P.elem t)) := by simp [Program.elem, ht]
  have he : P.elem t = e := by simp [Program.elem, ht]
  obtain ⟨hxl, A, c, rfl, hnc, hcm, hA, hcell⟩ := h
  rw [Nat.mul_one] at hxl
  refine ⟨if c = l then A else A.map (·.add l), c - l, fun W => ?_, by rw [List.length_drop]; omega, _, _, rfl, by omega, by omega, ?_, fun hp => ?_⟩
  · rw [run_slice_l W t _ _ _ ht' .i64 _ (by omega) (by omega), he, hz]
    simp [Result.andThen, sliced]
  · split
    · exact hA
    · rcases hA with rfl | ⟨b, o, rfl⟩
      · exact Or.inl rfl
      · exact Or.inr ⟨b, o + l, by rw [Option.map_some, add_none]⟩
  · obtain ⟨b, o, rfl, hlt, hc⟩ := hcell (by omega)
    refine ⟨b, o + l, by rw [if_neg (by omega), Option.map_some, add_none], hlt, fun j u hu => ?_⟩
    rw [Nat.add_assoc]
    exact hc (l + j) u (by rw [← List.getElem?_drop]; exact hu)
theorem own_empty (w : World) (B b o : Nat) (e : TypeId) : Own w B e 1 (.slice (some ⟨b, o, none⟩) 0 0) 0 [] := ⟨by simp, Or.inl ⟨_, rfl, rfl, Or.inr ⟨_, _, rfl⟩⟩⟩

set_option maxRecDepth 100000 in
set_option maxHeartbeats 1600000 in
theorem leave_walk (v : Value) (M : Ref) (w : World) (h : RV w v M) (hr : 1 ≤ M.rows.length) (hr2 : M.rows.length ≤ 1000) (hk : M.kept.length ≤ 2000) (hm : M.most ≤ 2000) :
    Calls Tryd.prog 38 #[v] w (ROPost w M.leave) := by
  obtain ⟨vr, vk, rfl, ⟨h1, _⟩, ⟨h2, _⟩⟩ := h
  obtain ⟨i0, hi, hz0, hz1, hz2⟩ := info_parts infoS
  have HI := Lib.hid hi; have HZ0 := Lib.hid hz0; have HZ1 := Lib.hid hz1; have HZ2 := Lib.hid hz2
  clear hi hz0 hz1 hz2
  have H1 := Lib.hid h1; have H2 := Lib.hid h2
  obtain ⟨-, A4, c4, rfl, -, -, -, -⟩ := h2
  obtain ⟨-, A3, c3, rfl, -, -, -, hc⟩ := h1
  obtain ⟨rb, ro, rfl, hlt, hc⟩ := hc (by omega)
  have hrow := hc 0 (strV (M.rows.headD [])) (by rw [List.getElem?_map]; cases hM : M.rows with | nil => rw [hM] at hr; simp at hr | cons a l => rfl)
  rw [Nat.add_zero, strV_bs] at hrow
  obtain ⟨R, hR⟩ : ∃ R : ByteArray, R = bs (M.rows.headD []) := ⟨_, rfl⟩
  rw [← hR] at hrow
  have HR := Lib.hid hR
  clear hR hc
  clear hc
  obtain ⟨n3, hn3⟩ : ∃ n : Nat, n = M.rows.length := ⟨_, rfl⟩
  obtain ⟨n4, hn4⟩ : ∃ n : Nat, n = M.kept.length := ⟨_, rfl⟩
  rw [← hn3] at H1 hr hr2
  rw [← hn4] at H2 hk
  have hrI : (0 : Int) < (n3 : Int) := by omega
  have hrN : 0 < n3 := by omega
  obtain ⟨W, hW⟩ : ∃ W, W = (w.alloc (.cells (M.vals (.slice (some ⟨rb, ro, none⟩) M.rows.length c3) (.slice A4 M.kept.length c4)) 31)).alloc (.cells #[.int .i64 0, .int .i64 0, .int .i64 0, .slice none 0 0, .slice none 0 0, .int .i64 0, .int .i64 0, .int .i64 0, .string ⟨#[]⟩] 31) := ⟨_, rfl⟩
  have hWx : W.heap[w.heap.size]? = some (.cells (M.vals (.slice (some ⟨rb, ro, none⟩) n3 c3) (.slice A4 n4 c4)) 31 (0, 0)) := by rw [hW, hn3, hn4]; exact alloc2_fst _ _ _
  have hWy : W.heap[w.heap.size + 1]? = some (.cells (zeroRef.vals nilS nilS) 31 (0, 0)) := by rw [hW]; exact alloc2_snd _ _ _
  have hWb : Below w.heap.size w W := by rw [hW]; exact below_alloc2 _ _ _
  have hWs : W.heap.size = w.heap.size + 2 := by rw [hW]; simp
  have hK : Rd W 1 (.slice A4 n4 c4) n4 (M.kept.map strV) := H2.out.next hWb
  have hRr : Rd W 1 (.slice (some ⟨rb, ro, none⟩) n3 c3) n3 (M.rows.map strV) := H1.out.next hWb
  have k4 : W.cell? ⟨w.heap.size, 4, none⟩ = some (.slice A4 n4 c4) := cell_of_row _ _ _ _ _ _ hWx
  have k3 : W.cell? ⟨w.heap.size, 3, none⟩ = some (.slice (some ⟨rb, ro, none⟩) n3 c3) := cell_of_row _ _ _ _ _ _ hWx
  have kr : W.cell? ⟨rb, ro, none⟩ = some (.string R) := (hWb.cell (p := ⟨rb, ro, none⟩) hlt).trans hrow
  have lb : w.heap.size < W.heap.size := by omega
  have lr : rb < W.heap.size := by omega
  have HW := Lib.hid hW; have HX := Lib.hid hWx; have HY := Lib.hid hWy; have HB := Lib.hid hWb; have HS := Lib.hid hWs; have HK := Lib.hid hK; have HRr := Lib.hid hRr
  have HN3 := Lib.hid hn3; have HN4 := Lib.hid hn4
  clear hW hWx hWy hWb hWs hK hRr hrow H2 hn3 hn4
  go_enter Tryd.func38, Tryd.ntmps38
  go_upto_region 1 with fail
  rw [← HW.out]
  clear HW
  go_cut [3] (fun s3 wx => ∃ A8 c8, s3 = .slice A8 (n4 + 1) c8 ∧ Hid (Own wx W.heap.size 9 1 (.slice A8 (n4 + 1) c8) (n4 + 1) ((M.kept ++ [M.rows.headD []]).map strV)) ∧ Hid (Below W.heap.size W wx))
  case first =>
    go_region_held3 (fun w' => w'.cell? ⟨w.heap.size, 4, none⟩ = some (.slice A4 n4 c4) ∧ w'.cell? ⟨w.heap.size, 3, none⟩ = some (.slice (some ⟨rb, ro, none⟩) n3 c3) ∧ w'.cell? ⟨rb, ro, none⟩ = some (.string R) ∧ Hid (Below W.heap.size W w')) (exact keepL lb lr k4 k3 kr (by repeat (first | exact Below.refl _ _ | assumption | refine below_alloc' ?_ (Nat.le_refl _) _ | refine below_drew ?_ | refine below_next ?_ (by assumption) | refine Below.trans ?_ (by assumption))))
      (first
        | (refine step_appE (by rfl) (.tmp 4) (.tmp 6) 26 26 (by rfl) W.heap.size 9 i0 _ 1 16 Tryd.underlying26 HI.out HZ0.out HZ1.out HZ2.out rfl n4 (M.kept.map strV) (by unfold maxLen; omega) (by omega) (Below.size (B := W.heap.size) (by repeat (first | exact Below.refl _ _ | assumption | refine below_alloc' ?_ (Nat.le_refl _) _ | refine below_drew ?_ | refine below_next ?_ (by assumption) | refine Below.trans ?_ (by assumption)))) (by simp [Act.eval]; exact EmptySl.mk _ _) (by simp [Act.eval]; exact (HK.out.next (by repeat (first | exact Below.refl _ _ | assumption | refine below_alloc' ?_ (Nat.le_refl _) _ | refine below_drew ?_ | refine below_next ?_ (by assumption) | refine Below.trans ?_ (by assumption)))).src _ Tryd.underlying26 (strV_one _)) ?_; intro v7 w7 hown7 hb7)
        | (refine step_app (by rfl) (.tmp 7) (.tmp 12) 26 26 (by rfl) W.heap.size 9 i0 _ 1 16 Tryd.underlying26 HI.out HZ0.out HZ1.out HZ2.out rfl n4 (M.kept.map strV) 1 [.string R] (by unfold maxLen; omega) (by omega) (Below.size (B := W.heap.size) (by repeat (first | exact Below.refl _ _ | assumption | refine below_alloc' ?_ (Nat.le_refl _) _ | refine below_drew ?_ | refine below_next ?_ (by assumption) | refine Below.trans ?_ (by assumption)))) (by simp [Act.eval]; first | exact hown7 | exact hown7.next ((Below.refl _ _).alloc (Nat.le_refl _) _)) (by simp [Act.eval]; first | exact (build_one _ _ _).src _ Tryd.underlying26 (one_str R) | exact ((rd_blk (w := ((W.alloc _).alloc _).drew) (alloc2_snd W _ _)).next hb7).src _ Tryd.underlying26 (one_str R) | exact ((rd_blk (w := ((W.alloc _).alloc _).drew) (alloc2_fst W _ _)).next hb7).src _ Tryd.underlying26 (one_str R)) ?_; intro v8 w8 hown8 hrow8 hb8))
    all_goals
      have hbW : Below W.heap.size W w8 := (‹_ ∧ _ ∧ _ ∧ Hid (Below W.heap.size W w8)›).2.2.2
      have hown8' : Own w8 W.heap.size 9 1 v8 (n4 + 1) ((M.kept ++ [M.rows.headD []]).map strV) := by
        rw [List.map_append, List.map_cons, List.map_nil, strV_bs, ← HR.out]; exact hown8
      obtain ⟨-, A8, c8, rfl, -, -, -, -⟩ := hown8'.rd
      go_wp2_with fail
      go_meet
      exact ⟨A8, c8, rfl, hown8', hbW⟩
  case rest =>
    obtain ⟨A8, c8, rfl, hown8', hbW⟩ := hcut
    obtain ⟨w8, hw8⟩ : ∃ w8, w8 = wc := ⟨_, rfl⟩
    rw [← hw8] at hown8' hbW ⊢
    clear hw8
    have hbW := hbW.out
    have hx8 : w8.heap[w.heap.size]? = some (.cells (M.vals (.slice (some ⟨rb, ro, none⟩) n3 c3) (.slice A4 n4 c4)) 31 (0, 0)) := (hbW.block _ lb).trans HX.out
    have hy8 : w8.heap[w.heap.size + 1]? = some (.cells (zeroRef.vals nilS nilS) 31 (0, 0)) := (hbW.block _ (by have := HS.out; omega)).trans HY.out
    obtain ⟨n5, hn5⟩ : ∃ n : Nat, n = n4 + 1 := ⟨_, rfl⟩
    rw [← hn5] at hown8' ⊢
    have hown8' := hown8'.out
    have lb8 : w.heap.size < w8.heap.size := Nat.lt_of_lt_of_le lb hbW.size
    have lb8' : w.heap.size + 1 < w8.heap.size := by have := HS.out; have := hbW.size; omega
    obtain ⟨A5, c5, hsl5, hrd5⟩ := H1.out.from Tryd.underlying26 Tryd.sizeOf9 1 hr
    simp only [Int.ofNat_one] at hsl5
    have hbw8 : Below w.heap.size w w8 := HB.out.trans (hbW.mono (by omega))
    have HN5 := Lib.hid hn5
    have hn5b : n5 ≤ 2001 := by omega
    have e0 : w8.cell? ⟨w.heap.size, 0, none⟩ = some (.int .i64 M.w) := cell_of_row _ _ _ _ _ _ hx8
    have e1 : w8.cell? ⟨w.heap.size, 1, none⟩ = some (.int .i64 M.h) := cell_of_row _ _ _ _ _ _ hx8
    have e2 : w8.cell? ⟨w.heap.size, 2, none⟩ = some (.int .i64 M.most) := cell_of_row _ _ _ _ _ _ hx8
    have e5 : w8.cell? ⟨w.heap.size, 5, none⟩ = some (.int .i64 M.x) := cell_of_row _ _ _ _ _ _ hx8
    have e6 : w8.cell? ⟨w.heap.size, 6, none⟩ = some (.int .i64 M.y) := cell_of_row _ _ _ _ _ _ hx8
    have e7 : w8.cell? ⟨w.heap.size, 7, none⟩ = some (.int .i64 M.begun) := cell_of_row _ _ _ _ _ _ hx8
    have e8 : w8.cell? ⟨w.heap.size, 8, none⟩ = some (.string (bs M.args)) := cell_of_row _ _ _ _ _ _ hx8
    have e3 : w8.cell? ⟨w.heap.size, 3, none⟩ = some (.slice (some ⟨rb, ro, none⟩) n3 c3) := cell_of_row _ _ _ _ _ _ hx8
    have e4 : w8.cell? ⟨w.heap.size, 4, none⟩ = some (.slice A4 n4 c4) := cell_of_row _ _ _ _ _ _ hx8
    have f3 : w8.frozen? ⟨w.heap.size, 3, none⟩ = false := frozen_of_row _ _ _ _ _ hx8
    have f4 : w8.frozen? ⟨w.heap.size, 4, none⟩ = false := frozen_of_row _ _ _ _ _ hx8
    have HO8 := Lib.hid hown8'; have HX8 := Lib.hid hx8; have HY8 := Lib.hid hy8; have HBW := Lib.hid hbW; have HRD := Lib.hid hrd5; have HBw8 := Lib.hid hbw8
    clear hown8' hx8 hy8 hbW k3 k4 kr hn5 hrd5 hbw8 lr hr hrI hrN
    by_cases hmost : M.most < n5
    · have hg : decide ((n5 : Int) > (M.most : Int)) = true := by simp; omega
      obtain ⟨k, hk⟩ : ∃ k : Nat, k = n5 - M.most := ⟨_, rfl⟩
      have hwk : IntKind.i64.wrap ((n5 : Int) - (M.most : Int)) = (k : Int) := by rw [IntWalk.i64_in _ (by omega)]; omega
      obtain ⟨v9, hsl9, ho9⟩ := HO8.out.from w8 Tryd.underlying26 Tryd.sizeOf9 k (by omega)
      obtain ⟨-, A9, c9, rfl, -, -, -, -⟩ := ho9.rd
      have HM : Hid (M.leave = { M with kept := (M.kept ++ [M.rows.headD []]).drop k, rows := M.rows.tail }) := by
        unfold Ref.leave
        rw [if_pos (by rw [← HN4.out, ← HN5.out]; exact hmost), hk, HN5.out, HN4.out]
        exact Lib.hid rfl
      obtain ⟨n9, hn9⟩ : ∃ n : Nat, n = n5 - k := ⟨_, rfl⟩
      rw [← hn9] at hsl9 ho9
      have HO9 : Hid (Own w8 W.heap.size 9 1 (.slice A9 n9 c9) ((M.kept ++ [M.rows.headD []]).drop k).length (((M.kept ++ [M.rows.headD []]).drop k).map strV)) := by
        rw [List.length_drop, List.length_append, ← HN4.out, show n4 + [M.rows.headD []].length - k = n9 from by rw [hn9, HN5.out]; rfl, List.map_drop]; exact ho9
      clear hk hn9 ho9
      have hbA : Below w.heap.size w ((w8.setCell ⟨w.heap.size, 4, none⟩ (.slice A9 n9 c9)).alloc (.cells #[] 9)) := (HBw8.out.setCell (p := ⟨w.heap.size, 4, none⟩) (Nat.le_refl _) _).alloc (by simp; omega) _
      have HBA := Lib.hid hbA
      clear hbA
      go_wp2_with (at_builtin; refine wpList_appE rfl (.tmp 28) (.tmp 31) 26 26 rfl W.heap.size 9 i0 _ 1 16 Tryd.underlying26 HI.out HZ0.out HZ1.out HZ2.out rfl _ _ rfl _ rfl (n3 - 1) ((M.rows.map strV).drop 1) ((HRD.out.next HBA.out).src _ Tryd.underlying26 (fun u hu => strV_one _ u (List.mem_of_mem_drop hu))) (by unfold maxLen; omega) (by omega) (by have := HBW.out.size; simp; omega) ?_)
      intro v10 w10 hown10 hb10 hob10
      have hap : Apart v10 (.slice A9 n9 c9) ((M.kept ++ [M.rows.headD []]).drop k).length := by
        rcases Nat.eq_zero_or_pos ((M.kept ++ [M.rows.headD []]).drop k).length with h0 | h0
        · exact Or.inl h0
        · refine Or.inr (fun g hg hk => ?_)
          obtain ⟨g', cur, fz, hg', _, hlt'⟩ := HO9.out.kind h0
          rw [hk] at hg'
          injection hg' with hg'
          subst hg'
          have hl : g < w8.heap.size := by
            rcases Nat.lt_or_ge g w8.heap.size with h | h
            · exact h
            · rw [Array.getElem?_eq_none h] at hlt'; cases hlt'
          rcases hob10 with h | h
          · rw [hg] at h; injection h with h; omega
          · rw [hg] at h; injection h with h; omega
      have hown10' : Own w10 W.heap.size 9 1 v10 M.rows.tail.length (M.rows.tail.map strV) := by
        rw [List.length_tail, ← HN3.out, List.map_tail, ← List.drop_one]; simpa using hown10
      have hsz10 : ((w8.setCell ⟨w.heap.size, 4, none⟩ (.slice A9 n9 c9)).alloc (.cells #[] 9)).heap.size = w8.heap.size + 1 := by simp
      have hb10' : Below ((w8.setCell ⟨w.heap.size, 4, none⟩ (.slice A9 n9 c9)).alloc (.cells #[] 9)).heap.size ((w8.setCell ⟨w.heap.size, 4, none⟩ (.slice A9 n9 c9)).alloc (.cells #[] 9)) w10 := by rw [hsz10]; exact hb10
      have hx10 : w10.heap[w.heap.size]? = some (.cells (M.vals (.slice (some ⟨rb, ro, none⟩) n3 c3) (.slice A9 n9 c9)) 31 (0, 0)) := by
        rw [hb10'.block _ (by rw [hsz10]; omega), Below.heap_alloc _ _ _ (by simp; omega), heap_setCell_same w8 _ 4 _ _ _ HX8.out]; rfl
      have hy10 : w10.heap[w.heap.size + 1]? = some (.cells (zeroRef.vals nilS nilS) 31 (0, 0)) := by
        rw [hb10'.block _ (by rw [hsz10]; omega), Below.heap_alloc _ _ _ (by simp; omega), Below.heap_setCell _ _ _ _ (by show w.heap.size + 1 ≠ w.heap.size; omega)]; exact HY8.out
      have ho10 : Own w10 W.heap.size 9 1 (.slice A9 n9 c9) ((M.kept ++ [M.rows.headD []]).drop k).length (((M.kept ++ [M.rows.headD []]).drop k).map strV) := ((own_ne HO9.out HX8.out (by decide) (grown_setCell w8 _ 4 _)).next ((Below.refl _ _).alloc (Nat.le_refl _) _)).next hb10'
      have hbw10 : Below w.heap.size w w10 := below_next HBA.out hb10'
      have hs10 : w.heap.size + 2 ≤ w10.heap.size := by have := hb10'.size; omega
      obtain ⟨-, A10, c10, rfl, -, -, -, -⟩ := hown10'.rd
      obtain ⟨n10, hn10⟩ : ∃ n : Nat, n = M.rows.tail.length := ⟨_, rfl⟩
      rw [← hn10]
      have HAP : Hid (Apart (.slice A10 n10 c10) (.slice A9 n9 c9) ((M.kept ++ [M.rows.headD []]).drop k).length) := by rw [hn10]; exact hap
      have HOR : Hid (Own w10 W.heap.size 9 1 (.slice A10 n10 c10) M.rows.tail.length (M.rows.tail.map strV)) := by rw [hn10]; exact hown10'
      have g0 : w10.cell? ⟨w.heap.size, 0, none⟩ = some (.int .i64 M.w) := cell_of_row _ _ _ _ _ _ hx10
      have g1 : w10.cell? ⟨w.heap.size, 1, none⟩ = some (.int .i64 M.h) := cell_of_row _ _ _ _ _ _ hx10
      have g2 : w10.cell? ⟨w.heap.size, 2, none⟩ = some (.int .i64 M.most) := cell_of_row _ _ _ _ _ _ hx10
      have g5 : w10.cell? ⟨w.heap.size, 5, none⟩ = some (.int .i64 M.x) := cell_of_row _ _ _ _ _ _ hx10
      have g6 : w10.cell? ⟨w.heap.size, 6, none⟩ = some (.int .i64 M.y) := cell_of_row _ _ _ _ _ _ hx10
      have g7 : w10.cell? ⟨w.heap.size, 7, none⟩ = some (.int .i64 M.begun) := cell_of_row _ _ _ _ _ _ hx10
      have g8 : w10.cell? ⟨w.heap.size, 8, none⟩ = some (.string (bs M.args)) := cell_of_row _ _ _ _ _ _ hx10
      have g3 : w10.cell? ⟨w.heap.size, 3, none⟩ = some (.slice (some ⟨rb, ro, none⟩) n3 c3) := cell_of_row _ _ _ _ _ _ hx10
      have g4 : w10.cell? ⟨w.heap.size, 4, none⟩ = some (.slice A9 n9 c9) := cell_of_row _ _ _ _ _ _ hx10
      have q3 : w10.frozen? ⟨w.heap.size, 3, none⟩ = false := frozen_of_row _ _ _ _ _ hx10
      have d0 : w10.cell? ⟨w.heap.size + 1, 0, none⟩ = some (.int .i64 0) := cell_of_row _ _ _ _ _ _ hy10
      have z0 : w10.frozen? ⟨w.heap.size + 1, 0, none⟩ = false := frozen_of_row _ _ _ _ _ hy10
      have d1 : w10.cell? ⟨w.heap.size + 1, 1, none⟩ = some (.int .i64 0) := cell_of_row _ _ _ _ _ _ hy10
      have z1 : w10.frozen? ⟨w.heap.size + 1, 1, none⟩ = false := frozen_of_row _ _ _ _ _ hy10
      have d2 : w10.cell? ⟨w.heap.size + 1, 2, none⟩ = some (.int .i64 0) := cell_of_row _ _ _ _ _ _ hy10
      have z2 : w10.frozen? ⟨w.heap.size + 1, 2, none⟩ = false := frozen_of_row _ _ _ _ _ hy10
      have d3 : w10.cell? ⟨w.heap.size + 1, 3, none⟩ = some (.slice none 0 0) := cell_of_row _ _ _ _ _ _ hy10
      have z3 : w10.frozen? ⟨w.heap.size + 1, 3, none⟩ = false := frozen_of_row _ _ _ _ _ hy10
      have d4 : w10.cell? ⟨w.heap.size + 1, 4, none⟩ = some (.slice none 0 0) := cell_of_row _ _ _ _ _ _ hy10
      have z4 : w10.frozen? ⟨w.heap.size + 1, 4, none⟩ = false := frozen_of_row _ _ _ _ _ hy10
      have d5 : w10.cell? ⟨w.heap.size + 1, 5, none⟩ = some (.int .i64 0) := cell_of_row _ _ _ _ _ _ hy10
      have z5 : w10.frozen? ⟨w.heap.size + 1, 5, none⟩ = false := frozen_of_row _ _ _ _ _ hy10
      have d6 : w10.cell? ⟨w.heap.size + 1, 6, none⟩ = some (.int .i64 0) := cell_of_row _ _ _ _ _ _ hy10
      have z6 : w10.frozen? ⟨w.heap.size + 1, 6, none⟩ = false := frozen_of_row _ _ _ _ _ hy10
      have d7 : w10.cell? ⟨w.heap.size + 1, 7, none⟩ = some (.int .i64 0) := cell_of_row _ _ _ _ _ _ hy10
      have z7 : w10.frozen? ⟨w.heap.size + 1, 7, none⟩ = false := frozen_of_row _ _ _ _ _ hy10
      have d8 : w10.cell? ⟨w.heap.size + 1, 8, none⟩ = some (.string ⟨#[]⟩) := cell_of_row _ _ _ _ _ _ hy10
      have z8 : w10.frozen? ⟨w.heap.size + 1, 8, none⟩ = false := frozen_of_row _ _ _ _ _ hy10
      have HX10 := Lib.hid hx10; have HY10 := Lib.hid hy10; have HO10 := Lib.hid ho10; have HBw := Lib.hid hbw10; have HN10 := Lib.hid hn10
      clear hx10 hy10 ho10 hown10' hbw10 hown10 hb10 hb10' hsz10 hn10 hap hob10 e0 e1 e2 e3 e4 e5 e6 e7 e8 f3 f4
      go_wp2_with fail
      have h2 := (Two.setA (b := w.heap.size) (a := w10) (w := w10) (fun _ _ _ => rfl) 3 (.slice A10 n10 c10)).cells 0 (M.leave.vals (.slice A10 n10 c10) (.slice A9 n9 c9)).toList
      have h3 := ((Below.refl w.heap.size w10).setCell (p := ⟨w.heap.size, 3, none⟩) (Nat.le_refl _) (.slice A10 n10 c10)).grown (grown_setCells _ (w.heap.size + 1) 0 (M.leave.vals (.slice A10 n10 c10) (.slice A9 n9 c9)).toList) (by simp; omega) (fun q hq => by injection hq with hq; omega)
      rw [HM.out] at h2 h3 ⊢
      refine bodyPost_ret (v := .agg (Ref.vals { M with kept := (M.kept ++ [M.rows.headD []]).drop k, rows := M.rows.tail } (.slice A10 n10 c10) (.slice A9 n9 c9))) (by simp [results, Tryd.results38, go_sem, Ref.vals, d0, d1, d2, d3, d4, d5, d6, d7, d8]) rfl ⟨_, rfl, ⟨_, _, rfl, ?_, ?_, HAP.out⟩, ?_⟩
      · exact (HOR.out.two (b := w.heap.size) (by have := HS.out; omega) h2).base (by have := HS.out; omega)
      · exact (HO10.out.two (b := w.heap.size) (by have := HS.out; omega) h2).base (by have := HS.out; omega)
      · exact HBw.out.trans h3
    · have hg : decide ((n5 : Int) > (M.most : Int)) = false := by simp; omega
      have HM : Hid (M.leave = { M with kept := M.kept ++ [M.rows.headD []], rows := M.rows.tail }) := by
        unfold Ref.leave
        rw [if_neg (by rw [← HN4.out, ← HN5.out]; exact hmost)]
        exact Lib.hid rfl
      obtain ⟨A9, hA9⟩ : ∃ A, A = A8 := ⟨_, rfl⟩
      obtain ⟨c9, hc9⟩ : ∃ c, c = c8 := ⟨_, rfl⟩
      obtain ⟨n9, hn9⟩ : ∃ c, c = n5 := ⟨_, rfl⟩
      have HO9 : Hid (Own w8 W.heap.size 9 1 (.slice A9 n9 c9) (M.kept ++ [M.rows.headD []]).length ((M.kept ++ [M.rows.headD []]).map strV)) := by
        rw [hA9, hc9, hn9, List.length_append, ← HN4.out, show n4 + [M.rows.headD []].length = n5 from by rw [HN5.out]; rfl]; exact HO8.out
      subst hA9 hc9 hn9
      have hg2 : decide ((M.most : Int) < (n9 : Int)) = false := by simp; omega
      have hbA : Below w.heap.size w ((w8.setCell ⟨w.heap.size, 4, none⟩ (.slice A9 n9 c9)).alloc (.cells #[] 9)) := (HBw8.out.setCell (p := ⟨w.heap.size, 4, none⟩) (Nat.le_refl _) _).alloc (by simp; omega) _
      have HBA := Lib.hid hbA
      clear hbA
      go_wp2_with (at_builtin; refine wpList_appE rfl (.tmp 28) (.tmp 31) 26 26 rfl W.heap.size 9 i0 _ 1 16 Tryd.underlying26 HI.out HZ0.out HZ1.out HZ2.out rfl _ _ rfl _ rfl (n3 - 1) ((M.rows.map strV).drop 1) ((HRD.out.next HBA.out).src _ Tryd.underlying26 (fun u hu => strV_one _ u (List.mem_of_mem_drop hu))) (by unfold maxLen; omega) (by omega) (by have := HBW.out.size; simp; omega) ?_)
      intro v10 w10 hown10 hb10 hob10
      have hap : Apart v10 (.slice A9 n9 c9) (M.kept ++ [M.rows.headD []]).length := by
        rcases Nat.eq_zero_or_pos (M.kept ++ [M.rows.headD []]).length with h0 | h0
        · exact Or.inl h0
        · refine Or.inr (fun g hg hk => ?_)
          obtain ⟨g', cur, fz, hg', _, hlt'⟩ := HO9.out.kind h0
          rw [hk] at hg'
          injection hg' with hg'
          subst hg'
          have hl : g < w8.heap.size := by
            rcases Nat.lt_or_ge g w8.heap.size with h | h
            · exact h
            · rw [Array.getElem?_eq_none h] at hlt'; cases hlt'
          rcases hob10 with h | h
          · rw [hg] at h; injection h with h; omega
          · rw [hg] at h; injection h with h; omega
      have hown10' : Own w10 W.heap.size 9 1 v10 M.rows.tail.length (M.rows.tail.map strV) := by
        rw [List.length_tail, ← HN3.out, List.map_tail, ← List.drop_one]; simpa using hown10
      have hsz10 : ((w8.setCell ⟨w.heap.size, 4, none⟩ (.slice A9 n9 c9)).alloc (.cells #[] 9)).heap.size = w8.heap.size + 1 := by simp
      have hb10' : Below ((w8.setCell ⟨w.heap.size, 4, none⟩ (.slice A9 n9 c9)).alloc (.cells #[] 9)).heap.size ((w8.setCell ⟨w.heap.size, 4, none⟩ (.slice A9 n9 c9)).alloc (.cells #[] 9)) w10 := by rw [hsz10]; exact hb10
      have hx10 : w10.heap[w.heap.size]? = some (.cells (M.vals (.slice (some ⟨rb, ro, none⟩) n3 c3) (.slice A9 n9 c9)) 31 (0, 0)) := by
        rw [hb10'.block _ (by rw [hsz10]; omega), Below.heap_alloc _ _ _ (by simp; omega), heap_setCell_same w8 _ 4 _ _ _ HX8.out]; rfl
      have hy10 : w10.heap[w.heap.size + 1]? = some (.cells (zeroRef.vals nilS nilS) 31 (0, 0)) := by
        rw [hb10'.block _ (by rw [hsz10]; omega), Below.heap_alloc _ _ _ (by simp; omega), Below.heap_setCell _ _ _ _ (by show w.heap.size + 1 ≠ w.heap.size; omega)]; exact HY8.out
      have ho10 : Own w10 W.heap.size 9 1 (.slice A9 n9 c9) (M.kept ++ [M.rows.headD []]).length ((M.kept ++ [M.rows.headD []]).map strV) := ((own_ne HO9.out HX8.out (by decide) (grown_setCell w8 _ 4 _)).next ((Below.refl _ _).alloc (Nat.le_refl _) _)).next hb10'
      have hbw10 : Below w.heap.size w w10 := below_next HBA.out hb10'
      have hs10 : w.heap.size + 2 ≤ w10.heap.size := by have := hb10'.size; omega
      obtain ⟨-, A10, c10, rfl, -, -, -, -⟩ := hown10'.rd
      obtain ⟨n10, hn10⟩ : ∃ n : Nat, n = M.rows.tail.length := ⟨_, rfl⟩
      rw [← hn10]
      have HAP : Hid (Apart (.slice A10 n10 c10) (.slice A9 n9 c9) (M.kept ++ [M.rows.headD []]).length) := by rw [hn10]; exact hap
      have HOR : Hid (Own w10 W.heap.size 9 1 (.slice A10 n10 c10) M.rows.tail.length (M.rows.tail.map strV)) := by rw [hn10]; exact hown10'
      have g0 : w10.cell? ⟨w.heap.size, 0, none⟩ = some (.int .i64 M.w) := cell_of_row _ _ _ _ _ _ hx10
      have g1 : w10.cell? ⟨w.heap.size, 1, none⟩ = some (.int .i64 M.h) := cell_of_row _ _ _ _ _ _ hx10
      have g2 : w10.cell? ⟨w.heap.size, 2, none⟩ = some (.int .i64 M.most) := cell_of_row _ _ _ _ _ _ hx10
      have g5 : w10.cell? ⟨w.heap.size, 5, none⟩ = some (.int .i64 M.x) := cell_of_row _ _ _ _ _ _ hx10
      have g6 : w10.cell? ⟨w.heap.size, 6, none⟩ = some (.int .i64 M.y) := cell_of_row _ _ _ _ _ _ hx10
      have g7 : w10.cell? ⟨w.heap.size, 7, none⟩ = some (.int .i64 M.begun) := cell_of_row _ _ _ _ _ _ hx10
      have g8 : w10.cell? ⟨w.heap.size, 8, none⟩ = some (.string (bs M.args)) := cell_of_row _ _ _ _ _ _ hx10
      have g3 : w10.cell? ⟨w.heap.size, 3, none⟩ = some (.slice (some ⟨rb, ro, none⟩) n3 c3) := cell_of_row _ _ _ _ _ _ hx10
      have g4 : w10.cell? ⟨w.heap.size, 4, none⟩ = some (.slice A9 n9 c9) := cell_of_row _ _ _ _ _ _ hx10
      have q3 : w10.frozen? ⟨w.heap.size, 3, none⟩ = false := frozen_of_row _ _ _ _ _ hx10
      have d0 : w10.cell? ⟨w.heap.size + 1, 0, none⟩ = some (.int .i64 0) := cell_of_row _ _ _ _ _ _ hy10
      have z0 : w10.frozen? ⟨w.heap.size + 1, 0, none⟩ = false := frozen_of_row _ _ _ _ _ hy10
      have d1 : w10.cell? ⟨w.heap.size + 1, 1, none⟩ = some (.int .i64 0) := cell_of_row _ _ _ _ _ _ hy10
      have z1 : w10.frozen? ⟨w.heap.size + 1, 1, none⟩ = false := frozen_of_row _ _ _ _ _ hy10
      have d2 : w10.cell? ⟨w.heap.size + 1, 2, none⟩ = some (.int .i64 0) := cell_of_row _ _ _ _ _ _ hy10
      have z2 : w10.frozen? ⟨w.heap.size + 1, 2, none⟩ = false := frozen_of_row _ _ _ _ _ hy10
      have d3 : w10.cell? ⟨w.heap.size + 1, 3, none⟩ = some (.slice none 0 0) := cell_of_row _ _ _ _ _ _ hy10
      have z3 : w10.frozen? ⟨w.heap.size + 1, 3, none⟩ = false := frozen_of_row _ _ _ _ _ hy10
      have d4 : w10.cell? ⟨w.heap.size + 1, 4, none⟩ = some (.slice none 0 0) := cell_of_row _ _ _ _ _ _ hy10
      have z4 : w10.frozen? ⟨w.heap.size + 1, 4, none⟩ = false := frozen_of_row _ _ _ _ _ hy10
      have d5 : w10.cell? ⟨w.heap.size + 1, 5, none⟩ = some (.int .i64 0) := cell_of_row _ _ _ _ _ _ hy10
      have z5 : w10.frozen? ⟨w.heap.size + 1, 5, none⟩ = false := frozen_of_row _ _ _ _ _ hy10
      have d6 : w10.cell? ⟨w.heap.size + 1, 6, none⟩ = some (.int .i64 0) := cell_of_row _ _ _ _ _ _ hy10
      have z6 : w10.frozen? ⟨w.heap.size + 1, 6, none⟩ = false := frozen_of_row _ _ _ _ _ hy10
      have d7 : w10.cell? ⟨w.heap.size + 1, 7, none⟩ = some (.int .i64 0) := cell_of_row _ _ _ _ _ _ hy10
      have z7 : w10.frozen? ⟨w.heap.size + 1, 7, none⟩ = false := frozen_of_row _ _ _ _ _ hy10
      have d8 : w10.cell? ⟨w.heap.size + 1, 8, none⟩ = some (.string ⟨#[]⟩) := cell_of_row _ _ _ _ _ _ hy10
      have z8 : w10.frozen? ⟨w.heap.size + 1, 8, none⟩ = false := frozen_of_row _ _ _ _ _ hy10
      have HX10 := Lib.hid hx10; have HY10 := Lib.hid hy10; have HO10 := Lib.hid ho10; have HBw := Lib.hid hbw10; have HN10 := Lib.hid hn10
      clear hx10 hy10 ho10 hown10' hbw10 hown10 hb10 hb10' hsz10 hn10 hap hob10 e0 e1 e2 e3 e4 e5 e6 e7 e8 f3 f4
      go_wp2_with fail
      have h2 := (Two.setA (b := w.heap.size) (a := w10) (w := w10) (fun _ _ _ => rfl) 3 (.slice A10 n10 c10)).cells 0 (M.leave.vals (.slice A10 n10 c10) (.slice A9 n9 c9)).toList
      have h3 := ((Below.refl w.heap.size w10).setCell (p := ⟨w.heap.size, 3, none⟩) (Nat.le_refl _) (.slice A10 n10 c10)).grown (grown_setCells _ (w.heap.size + 1) 0 (M.leave.vals (.slice A10 n10 c10) (.slice A9 n9 c9)).toList) (by simp; omega) (fun q hq => by injection hq with hq; omega)
      rw [HM.out] at h2 h3 ⊢
      refine bodyPost_ret (v := .agg (Ref.vals { M with kept := M.kept ++ [M.rows.headD []], rows := M.rows.tail } (.slice A10 n10 c10) (.slice A9 n9 c9))) (by simp [results, Tryd.results38, go_sem, Ref.vals, d0, d1, d2, d3, d4, d5, d6, d7, d8]) rfl ⟨_, rfl, ⟨_, _, rfl, ?_, ?_, HAP.out⟩, ?_⟩
      · exact (HOR.out.two (b := w.heap.size) (by have := HS.out; omega) h2).base (by have := HS.out; omega)
      · exact (HO10.out.two (b := w.heap.size) (by have := HS.out; omega) h2).base (by have := HS.out; omega)
      · exact HBw.out.trans h3
end Go.Proofs.YtiefpodmdpnppaaDoor
