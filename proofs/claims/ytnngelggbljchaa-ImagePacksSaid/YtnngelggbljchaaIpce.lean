/-
  The proof's lemmas, part 5.
-/
import Derived.Test.YtnngelggbljchaaIpcd
import Derived.OpenVars
import Derived.Carry
namespace Go.Proofs.Ytnngelggbljchaa
set_option linter.unusedSimpArgs false
set_option linter.unusedVariables false
section
open Go.RowKit Go.Sort
set_option maxRecDepth 10000
def strU (l : List Int) : ByteArray := ⟨(u8L l).toArray⟩
theorem u8_strL {l : List Int} (hb : ∀ v ∈ l, 0 ≤ v ∧ v < 256) : strL (strU l) = l := by
  show (u8L l).toArray.toList.map (fun c => (c.toNat : Int)) = l
  unfold u8L
  rw [List.map_map]
  exact (List.map_congr_left (g := id) fun v hv => u8_back (hb v hv)).trans (List.map_id _)
theorem strL_u8 (s : ByteArray) : strU (strL s) = s := by
  obtain ⟨a⟩ := s
  show (⟨(u8L (a.toList.map fun c => (c.toNat : Int))).toArray⟩ : ByteArray) = ⟨a⟩
  unfold u8L
  rw [List.map_map]
  have : (fun n : Int => UInt8.ofNat n.toNat) ∘ (fun c : UInt8 => (c.toNat : Int)) = id := by
    funext c
    show UInt8.ofNat ((c.toNat : Int)).toNat = c
    rw [Int.toNat_natCast]
    exact UInt8.ofNat_toNat
  rw [this, List.map_id, Array.toArray_toList]
theorem VX.copyM [Dr] {P : Program} {tab : Tab} {im : List Nat} {ds : List (Option Nat)} {ops : List Oper} {E : Env} {H : Hp} {K : Env → Hp → Prop} {d : Option Nat} {ty : TypeId} {pos : String} {after : Array Edge} {x y : Operand} {t1 t2 : TypeId} {e b o n : Nat} {i j i2 : TyI} {c : Option Nat} {s : ByteArray} {l q : List Int} (hT : tab t1 = some i) (hk : i.k = .sl e) (hj : tab e = some j) (hz : j.sz = 1) (hT2 : tab t2 = some i2) (hk2 : i2.k = .str) (hx : E.opd x = some (.slc b o n 1 c)) (hy : E.opd y = some (.v (.string s)))
    (hc : lookH H b = some (encL cU l)) (h1 : o + n ≤ l.length) (hs : strL s = q) (h2 : q.length ≤ n) (k : VX false P tab im ds ops (putC E d (.v (.int .i64 (q.length : Nat)))) (setH H b (.c (encL cU (l.take o ++ q ++ l.drop (o + q.length))))) K) : VX false P tab im ds (⟨d, .call ⟨.builtin .copy, #[x, y], #[t1, t2]⟩, ty, pos, after, none⟩ :: ops) E H K := by
  subst hs
  rw [strL_len] at h2
  refine VX.copy hx hy (r := .v (.int .i64 ((strL s).length : Nat))) (H' := setH H b (.c (encL cU (l.take o ++ strL s ++ l.drop (o + (strL s).length))))) ?_ k
  have hl : (encL cU (strL s)).length = s.size := by rw [encL_len, cU_sz, Nat.mul_one, strL_len]
  have hr : (encL cU l).length = l.length := by rw [encL_len, cU_sz, Nat.mul_one]
  simp only [mCopy, hT, hk, hj, srcCells, hT2, hk2, hz, if_true, hc, strL_enc]
  rw [if_pos ⟨trivial, by omega, by omega, encL_cb cU _⟩]
  have e1 : putL (encL cU l) o ((encL cU (strL s)).take (min s.size n * 1)) = encL cU (l.take o ++ strL s ++ l.drop (o + (strL s).length)) := by
    rw [Nat.mul_one, Nat.min_eq_left h2, List.take_of_length_le (by omega)]
    unfold putL
    have e2 := encL_take_u l o
    have e3 := encL_drop cU l (o + s.size)
    rw [cU_sz, Nat.mul_one] at e3
    rw [Nat.mul_one] at e2
    rw [encL_append, encL_append, hl, strL_len, e2, e3]
  rw [e1, Nat.min_eq_left h2, strL_len]
theorem pxRow_L {w y h : Nat} {px : List Int} (hb : ∀ v ∈ px, 0 ≤ v ∧ v < 256) : strL (pxRow w px y) = (px.drop (y * w)).take w :=
  u8_strL fun v hv => hb v (List.mem_of_mem_drop (List.mem_of_mem_take hv))
theorem row_step {px : List Int} {k w n : Nat} (h : k + w ≤ px.length) : (px.take k ++ List.replicate (n - k) 0).take k ++ (px.drop k).take w ++ (px.take k ++ List.replicate (n - k) 0).drop (k + ((px.drop k).take w).length) = px.take (k + w) ++ List.replicate (n - (k + w)) 0 := by
  have e1 : (px.take k).length = k := by rw [List.length_take]; omega
  have e2 : ((px.drop k).take w).length = w := by rw [List.length_take, List.length_drop]; omega
  rw [e2, List.take_left' e1, List.drop_append, List.drop_of_length_le (show (px.take k).length ≤ k + w by omega), e1, List.nil_append, List.drop_replicate, show n - k - (k + w - k) = n - (k + w) from by omega, ← List.take_add]
theorem VX.strJ [Dr] {q : Bool} {P : Program} {tab : Tab} {im : List Nat} {ds : List (Option Nat)} {l : List Oper} {E : Env} {H : Hp} {K : Env → Hp → Prop} {d : Nat} {ty : TypeId} {pos : String} {after : Array Edge} {t1 t2 e n : Nat} {x : Operand} {i j r : TyI} {c : Option Nat} {xs : List Int} (hT : tab t1 = some i) (hk : i.k = .sl e) (hj : tab t2 = some j) (hj2 : j.k = .str) (he : tab e = some r) (hr : r.k = .int .u8) (hx : E.opd x = some (.islc (encL cU xs) n c)) (hn : n = xs.length)
    (k : VX q P tab im ds l ((d, .v (.string (strU xs))) :: E) H K) : VX q P tab im ds (⟨some d, .convert t1 t2 x, ty, pos, after, none⟩ :: l) E H K := by
  refine VX.meek (t := .v (.string (strU xs))) ?_ k
  subst hn
  have e1 : xs.length = (encL cU xs).length := by rw [encL_len, cU_sz, Nat.mul_one]
  simp only [opM, hx, mConv, hT, hj, hk, hj2, he, hr]
  rw [if_pos (by omega), e1, List.take_length, bytes_enc]
  rfl
theorem strL_at (s : ByteArray) {m : Nat} (h : m < s.size) : ∃ c : UInt8, s[m]? = some c ∧ (c.toNat : Int) = (strL s)[m]! := by
  refine ⟨s[m], getElem?_pos s m h, ?_⟩
  have h2 : m < (strL s).length := by rw [strL_len]; exact h
  rw [getElem!_pos (strL s) m h2]
  exact ((List.getElem_map (fun c : UInt8 => (c.toNat : Int)) (l := s.data.toList) (h := h2)).trans (by rw [Array.getElem_toList]; rfl)).symm
theorem padL_self (G : List Int) : padL G G.length = G := listI_ext (padL_len _ _) fun j hj => by
  rw [padL_len] at hj
  rw [padL_bang, if_pos ⟨hj, hj⟩]
theorem pack_p (w h : Nat) (px : List Int) (hw : w ≤ 128) (hh : h ≤ 128) (hl : px.length = w * h) (hb : ∀ v ∈ px, 0 ≤ v ∧ v < 256) : CallP Try.prog 5 [gT w h px] (.v (.string (strU px))) := by
  have hwh : w * h ≤ 128 * 128 := Nat.mul_le_mul hw hh
  have hm : (w : Int) * (h : Int) = ((w * h : Nat) : Int) := (Int.natCast_mul w h).symm
  have hhw : w * h = h * w := Nat.mul_comm w h
  refine CallP.intro2 au_pu au_pu ?_
  refine CallT.intro tab_ok Try.func5 rfl (by kernel_rfl) (Nat.le_of_ble_eq_true rfl) ?_
  refine VC.reg tab_ok [1] rfl ?_
  refine VX.newI rfl rfl ?_
  refine VX.meek rfl ?_
  refine VX.nil ?_
  refine VC.reg tab_ok [] rfl ?_
  first | refine VX.meek rfl ?_ | refine VX.loadI rfl rfl au_l ?_ | refine VX.loadP rfl rfl rfl au_l ?_
  refine VX.callP0 rfl rfl rfl ((show CallP Try.prog 11 [gT w h px] (.tup [I64 w, I64 h]) from size_p ⟨w, h, px⟩)) ?_
  iterate 5 refine VX.meek rfl ?_
  refine VX.nil ?_
  refine VC.reg tab_ok [] rfl ?_
  iterate 2 refine VX.meek rfl ?_
  refine VX.mul rfl rfl (by rw [hm]; omega) ?_
  refine VX.mkS (a := w * h) (b := w * h) rfl rfl rfl rfl rfl rfl hm hm (by omega) (by omega) (by dsimp only; omega) ?_
  refine VX.meek rfl ?_
  refine VX.nil ?_
  refine VC.seq ?_
  refine VC.reg tab_ok [] rfl ?_
  iterate 2 refine VX.meek rfl ?_
  refine VX.nil ?_
  refine VC.block ?_
  refine VC.loopS (σ := Nat) (fun y => h - y) (fun y => y ≤ h) (fun y => [(17, I64 y), (5, .slc 0 0 (w * h) 1 none)]) (fun y => [.c (encL cU (px.take (y * w) ++ List.replicate (w * h - y * w) 0))]) [1, 3, 16] rfl (0) ?_ ?_ ?_
  · refine ⟨[some 0], rfl, by first | trivial | decide, by first | rfl | (simp only [noO, Bool.and_true, Bool.and_eq_true]; first | assumption | (refine ⟨?_, ?_⟩ <;> assumption)) | (simp only [noO, *, Bool.and_true, Bool.true_and, Bool.and_self]; done), ?_, ?_⟩ <;> (repeat' first | exact trivial | exact CvB_n | exact CvB_d | exact CvB_o rfl | refine CvE_app ?_ ?_ | refine CvE_cons rfl ?_ ?_ | refine CvH_cons ?_ ?_ | refine CvB_c rfl ?_ | fail) <;> first | exact au_v | (first | exact Cv.slcE rfl rfl (.inr rfl) | exact CvL.eq ((zerosU _).trans (congrArg (encL cU) (by rw [Nat.zero_mul, List.take_zero, List.nil_append, Nat.sub_zero]))) (encL_pure cU _))
  · (try dsimp only); omega
  rintro y hy
  refine VC.reg tab_ok [] rfl ?_
  refine VX.meek rfl ?_
  refine VX.nil ?_
  refine VC.seq ?_
  refine VC.cond rfl (fun hc0 => ?_) (fun hc0 => ?_)
  · (try simp only [au_std] at hc0); have hyl : y < h := (by omega)
    have hyw : (y + 1) * w ≤ h * w := Nat.mul_le_mul_right w hyl
    have hyw2 : (y + 1) * w = y * w + w := (by rw [Nat.add_mul, Nat.one_mul])
    have hmy : (y : Int) * (w : Int) = ((y * w : Nat) : Int) := (Int.natCast_mul y w).symm
    have hstep := row_step (px := px) (k := y * w) (w := w) (n := w * h) (by omega)
    have h0 : y * w = 0 ∨ y * w < w * h := (by rcases Nat.eq_zero_or_pos w with k | k; exact .inl (by rw [k, Nat.mul_zero]); exact .inr (by omega))
    have hq : ((px.drop (y * w)).take w).length = w := (by rw [List.length_take, List.length_drop]; omega)
    have hlen : (px.take (y * w) ++ List.replicate (w * h - y * w) (0 : Int)).length = w * h := (by rw [List.length_append, List.length_take, List.length_replicate]; omega)
    refine VC.skip ?_
    refine VC.seq ?_
    refine VC.block ?_
    refine VC.reg tab_ok [] rfl ?_
    iterate 2 refine VX.meek rfl ?_
    refine VX.nil ?_
    refine VC.drwN tab_ok [] [_, _, _, _, _, _, _, _] rfl (by kernel_rfl) (by kernel_rfl) ?_
    iterate 3 refine VX.meek rfl ?_
    refine VX.mul rfl rfl (by rw [hmy]; omega) ?_
    refine VX.slcO (p := y * w) (r := w * h) rfl rfl rfl rfl rfl rfl rfl rfl hmy rfl (by omega) (Nat.le_refl _) h0 ?_; rw [show 0 + y * w * 1 = y * w from by omega]
    first | refine VX.meek rfl ?_ | refine VX.loadI rfl rfl au_l ?_ | refine VX.loadP rfl rfl rfl au_l ?_
    refine VX.meek rfl ?_
    refine VX.callP0 rfl rfl rfl (row_p w h px y hw hh hl hyl) ?_
    refine VX.nil ?_
    refine VX.copyM (b := 0) (o := y * w) rfl rfl rfl rfl rfl rfl rfl rfl rfl (by rw [hlen]; omega) (pxRow_L (h := h) hb) (by rw [hq]; omega) ?_
    refine VX.nil ?_
    refine VC.regN tab_ok [] rfl ?_
    first | refine VX.add rfl rfl (by omega) ?_ | refine VX.meek rfl ?_
    refine VX.meek rfl ?_
    refine VX.nil ?_
    refine ⟨y + 1, by (try dsimp only); omega, ?_, (by refine ⟨[some 0], rfl, by first | trivial | decide, by first | rfl | (simp only [noO, Bool.and_true, Bool.and_eq_true]; first | assumption | (refine ⟨?_, ?_⟩ <;> assumption)) | (simp only [noO, *, Bool.and_true, Bool.true_and, Bool.and_self]; done), ?_, ?_⟩ <;> (repeat' first | exact trivial | exact CvB_n | exact CvB_d | exact CvB_o rfl | refine CvE_app ?_ ?_ | refine CvE_cons rfl ?_ ?_ | refine CvH_cons ?_ ?_ | refine CvB_c rfl ?_ | fail) <;> first | exact au_v | (first | exact Cv.slc rfl (.inl rfl) | (rw [hyw2, ← hstep]; exact CvL.pure (encL_pure cU _))))⟩
    (try dsimp only); omega
  · (try simp only [au_std] at hc0); obtain rfl : h = y := (by omega); have hend : px.take (h * w) ++ List.replicate (w * h - h * w) 0 = px := (by rw [List.take_of_length_le (by omega), hhw, Nat.sub_self, List.replicate_zero, List.append_nil]); rw [hend]
    refine VC.exit ?_
    refine VC.reg tab_ok [] rfl ?_
    refine VX.meek rfl ?_
    refine VX.strO (xs := px) (tl := []) rfl rfl rfl rfl rfl rfl rfl (by rw [List.append_nil]; rfl) hl.symm ?_
    refine VX.meek rfl ?_
    refine VX.nil ?_
    refine VC.ret ?_
    exact ⟨trivial, _, rfl, Cv.eq rfl rfl⟩
theorem unpack_bad (w h : Int) (b : ByteArray) (hs : sideB w = false ∨ sideB h = false) : CallP Try.prog 7 [I64 w, I64 h, .v (.string b)] (.tup [gT 0 0 [], I64 17]) := by
  refine CallP.intro2 au_pu au_pu ?_
  refine CallT.intro tab_ok Try.func7 rfl (by kernel_rfl) (Nat.le_of_ble_eq_true rfl) ?_
  refine VC.reg tab_ok [] rfl ?_
  refine VX.new rfl rfl ?_
  refine VX.meek rfl ?_
  refine VX.nil ?_
  refine VC.reg tab_ok [] rfl ?_
  iterate 2 refine VX.meek rfl ?_
  refine VX.callP0 rfl rfl rfl (new_no w h 0 hs) ?_
  iterate 3 refine VX.meek rfl ?_
  refine VX.new rfl rfl ?_
  refine VX.store rfl rfl rfl rfl rfl au_sR rfl ?_
  refine VX.meek rfl ?_
  refine VX.nil ?_
  refine VC.seq ?_
  refine VC.block ?_
  refine VC.reg tab_ok [] rfl ?_
  iterate 3 refine VX.meek rfl ?_
  refine VX.nil ?_
  refine VC.cond rfl (fun hc0 => ?_) (fun hc0 => ?_)
  · (try simp only [au_std] at hc0)
    refine VC.reg tab_ok [] rfl ?_
    iterate 2 refine VX.meek rfl ?_
    refine VX.store rfl rfl rfl rfl rfl au_sR rfl ?_
    refine VX.meek rfl ?_
    refine VX.nil ?_
    refine VC.ret ?_
    exact ⟨trivial, _, rfl, Cv.tup (CvL.cons (Cv.agg (CvL.cons (Cv.pure rfl) (CvL.cons (Cv.pure rfl) (CvL.cons (Cv.nil _ (.inl rfl)) CvL.nil)))) (CvL.cons (Cv.pure rfl) CvL.nil))⟩
  · exact absurd hc0 (by simp)
theorem unpack_short (w h : Nat) (b : ByteArray) (hw : 1 ≤ w ∧ w ≤ 128) (hh : 1 ≤ h ∧ h ≤ 128) (hb : b.size < w * h) : CallP Try.prog 7 [I64 w, I64 h, .v (.string b)] (.tup [gT 0 0 [], I64 3]) := by
  have hwh : w * h ≤ 128 * 128 := Nat.mul_le_mul hw.2 hh.2
  have hm : (w : Int) * (h : Int) = ((w * h : Nat) : Int) := (Int.natCast_mul w h).symm
  refine CallP.intro2 au_pu au_pu ?_
  refine CallT.intro tab_ok Try.func7 rfl (by kernel_rfl) (Nat.le_of_ble_eq_true rfl) ?_
  refine VC.reg tab_ok [] rfl ?_
  refine VX.new rfl rfl ?_
  refine VX.meek rfl ?_
  refine VX.nil ?_
  refine VC.reg tab_ok [] rfl ?_
  iterate 2 refine VX.meek rfl ?_
  refine VX.callP0 rfl rfl rfl (gnew_p w h 0 hw hh) ?_
  iterate 3 refine VX.meek rfl ?_
  refine VX.new rfl rfl ?_
  refine VX.store rfl rfl rfl rfl rfl au_sR rfl ?_
  refine VX.meek rfl ?_
  refine VX.nil ?_
  refine VC.seq ?_
  refine VC.block ?_
  refine VC.reg tab_ok [] rfl ?_
  iterate 3 refine VX.meek rfl ?_
  refine VX.nil ?_
  refine VC.cond rfl (fun hc0 => ?_) (fun hc0 => ?_)
  · exact absurd hc0 (by simp)
  · (try simp only [au_std] at hc0)
    refine VC.reg tab_ok [] rfl ?_
    iterate 4 refine VX.meek rfl ?_
    refine VX.mul rfl rfl (by rw [hm]; omega) ?_
    iterate 2 refine VX.meek rfl ?_
    refine VX.nil ?_
    refine VC.cond rfl (fun hc1 => ?_) (fun hc1 => ?_)
    · (try simp only [au_std] at hc1)
      refine VC.reg tab_ok [] rfl ?_
      refine VX.meek rfl ?_
      refine VX.store rfl rfl rfl rfl rfl au_sR rfl ?_
      refine VX.meek rfl ?_
      refine VX.nil ?_
      refine VC.ret ?_
      exact ⟨trivial, _, rfl, Cv.tup (CvL.cons (Cv.agg (CvL.cons (Cv.pure rfl) (CvL.cons (Cv.pure rfl) (CvL.cons (Cv.nil _ (.inl rfl)) CvL.nil)))) (CvL.cons (Cv.pure rfl) CvL.nil))⟩
    · (try simp only [au_std] at hc1); rw [hm] at hc1; omega
theorem unpack_long (w h : Nat) (b : ByteArray) (hw : 1 ≤ w ∧ w ≤ 128) (hh : 1 ≤ h ∧ h ≤ 128) (hb : w * h < b.size) : CallP Try.prog 7 [I64 w, I64 h, .v (.string b)] (.tup [gT 0 0 [], I64 4]) := by
  have hwh : w * h ≤ 128 * 128 := Nat.mul_le_mul hw.2 hh.2
  have hm : (w : Int) * (h : Int) = ((w * h : Nat) : Int) := (Int.natCast_mul w h).symm
  refine CallP.intro2 au_pu au_pu ?_
  refine CallT.intro tab_ok Try.func7 rfl (by kernel_rfl) (Nat.le_of_ble_eq_true rfl) ?_
  refine VC.reg tab_ok [] rfl ?_
  refine VX.new rfl rfl ?_
  refine VX.meek rfl ?_
  refine VX.nil ?_
  refine VC.reg tab_ok [] rfl ?_
  iterate 2 refine VX.meek rfl ?_
  refine VX.callP0 rfl rfl rfl (gnew_p w h 0 hw hh) ?_
  iterate 3 refine VX.meek rfl ?_
  refine VX.new rfl rfl ?_
  refine VX.store rfl rfl rfl rfl rfl au_sR rfl ?_
  refine VX.meek rfl ?_
  refine VX.nil ?_
  refine VC.seq ?_
  refine VC.block ?_
  refine VC.reg tab_ok [] rfl ?_
  iterate 3 refine VX.meek rfl ?_
  refine VX.nil ?_
  refine VC.cond rfl (fun hc0 => ?_) (fun hc0 => ?_)
  · exact absurd hc0 (by simp)
  · (try simp only [au_std] at hc0)
    refine VC.reg tab_ok [] rfl ?_
    iterate 4 refine VX.meek rfl ?_
    refine VX.mul rfl rfl (by rw [hm]; omega) ?_
    iterate 2 refine VX.meek rfl ?_
    refine VX.nil ?_
    refine VC.cond rfl (fun hc1 => ?_) (fun hc1 => ?_)
    · (try simp only [au_std] at hc1); rw [hm] at hc1; omega
    · (try simp only [au_std] at hc1)
      refine VC.reg tab_ok [] rfl ?_
      iterate 4 refine VX.meek rfl ?_
      refine VX.mul rfl rfl (by rw [hm]; omega) ?_
      iterate 2 refine VX.meek rfl ?_
      refine VX.nil ?_
      refine VC.cond rfl (fun hc2 => ?_) (fun hc2 => ?_)
      · (try simp only [au_std] at hc2)
        refine VC.reg tab_ok [] rfl ?_
        refine VX.meek rfl ?_
        refine VX.store rfl rfl rfl rfl rfl au_sR rfl ?_
        refine VX.meek rfl ?_
        refine VX.nil ?_
        refine VC.ret ?_
        exact ⟨trivial, _, rfl, Cv.tup (CvL.cons (Cv.agg (CvL.cons (Cv.pure rfl) (CvL.cons (Cv.pure rfl) (CvL.cons (Cv.nil _ (.inl rfl)) CvL.nil)))) (CvL.cons (Cv.pure rfl) CvL.nil))⟩
      · (try simp only [au_std] at hc2); rw [hm] at hc2; omega
theorem unpack_p (w h : Nat) (b : ByteArray) (hw : 1 ≤ w ∧ w ≤ 128) (hh : 1 ≤ h ∧ h ≤ 128) (hb : b.size = w * h) : CallP Try.prog 7 [I64 w, I64 h, .v (.string b)] (.tup [gT w h (strL b), I64 0]) := by
  have hwh : w * h ≤ 128 * 128 := Nat.mul_le_mul hw.2 hh.2
  have hm : (w : Int) * (h : Int) = ((w * h : Nat) : Int) := (Int.natCast_mul w h).symm
  have hhw : w * h = h * w := Nat.mul_comm w h
  have hPl : (strL b).length = w * h := (strL_len b).trans hb
  have hPb := strL_bd b
  have hzl : (List.replicate (w * h) (0 : Int)).length = w * h := List.length_replicate
  have hzb : ∀ v ∈ List.replicate (w * h) (0 : Int), 0 ≤ v ∧ v < 256 := fun v hv => by rw [List.eq_of_mem_replicate hv]; omega
  have hat : ∀ m, m < w * h → ∃ c : UInt8, b[m]? = some c ∧ (c.toNat : Int) = (strL b)[m]! := fun m hm => strL_at b (by omega)
  have hnew := gnew_p w h 0 hw hh
  have hz0 : padL ((strL b).take 0) (w * h) = List.replicate (w * h) 0 := by rw [List.take_zero, padL_nil]
  generalize hZ : List.replicate (w * h) (0 : Int) = Z at *
  generalize strL b = G at *
  have hpp2 : ∀ k : Vw, k.R 1 2 → Cv k (plT 2 w h Z) (plT 1 w h Z) := fun k hk => Cv.iptr (cv_pl (Cv.pure (encL_pure cU _)) (Cv.slc hk (.inl rfl)))
  have hpp : ∀ k : Vw, k.R 1 1 → Cv k (plT 1 w h Z) (plT 1 w h Z) := fun k hk => Cv.iptr (cv_pl (Cv.pure (encL_pure cU _)) (Cv.slc hk (.inl rfl)))
  refine CallP.intro2 au_pu au_pu ?_
  refine CallT.intro tab_ok Try.func7 rfl (by kernel_rfl) (Nat.le_of_ble_eq_true rfl) ?_
  refine VC.reg tab_ok [] rfl ?_
  refine VX.new rfl rfl ?_
  refine VX.meek rfl ?_
  refine VX.nil ?_
  refine VC.reg tab_ok [] rfl ?_
  iterate 2 refine VX.meek rfl ?_
  refine VX.callP0 rfl rfl rfl (hnew) ?_
  iterate 3 refine VX.meek rfl ?_
  refine VX.new rfl rfl ?_
  refine VX.store rfl rfl rfl rfl rfl au_sR rfl ?_
  refine VX.meek rfl ?_
  refine VX.nil ?_
  refine VC.seq ?_
  refine VC.block ?_
  refine VC.reg tab_ok [] rfl ?_
  iterate 3 refine VX.meek rfl ?_
  refine VX.nil ?_
  refine VC.cond rfl (fun hc0 => ?_) (fun hc0 => ?_)
  · exact absurd hc0 (by simp)
  · (try simp only [au_std] at hc0)
    refine VC.reg tab_ok [] rfl ?_
    iterate 4 refine VX.meek rfl ?_
    refine VX.mul rfl rfl (by rw [hm]; omega) ?_
    iterate 2 refine VX.meek rfl ?_
    refine VX.nil ?_
    refine VC.cond rfl (fun hc1 => ?_) (fun hc1 => ?_)
    · (try simp only [au_std] at hc1); rw [hm] at hc1; omega
    · (try simp only [au_std] at hc1)
      refine VC.reg tab_ok [] rfl ?_
      iterate 4 refine VX.meek rfl ?_
      refine VX.mul rfl rfl (by rw [hm]; omega) ?_
      iterate 2 refine VX.meek rfl ?_
      refine VX.nil ?_
      refine VC.cond rfl (fun hc2 => ?_) (fun hc2 => ?_)
      · (try simp only [au_std] at hc2); rw [hm] at hc2; omega
      · (try simp only [au_std] at hc2)
        refine VC.skip ?_
        refine VC.reg tab_ok [] rfl ?_
        first | refine VX.meek rfl ?_ | refine VX.loadI rfl rfl au_l ?_ | refine VX.loadP rfl rfl rfl au_l ?_
        refine VX.callT rfl rfl (CallT.frame (planeOf_t w h Z hw.2 hh.2 hzl hzb) [] rfl au_ci au_ci ?_)
        rintro _ _ ⟨rfl, rfl⟩
        refine frK au_co au_co ?_
        refine VX.meek rfl ?_
        refine VX.nil ?_
        refine VC.seq ?_
        refine VC.reg tab_ok [] rfl ?_
        iterate 2 refine VX.meek rfl ?_
        refine VX.nil ?_
        refine VC.block ?_
        refine VC.loopS (σ := Nat) (fun y => h - y) (fun y => y ≤ h) (fun y => [(43, I64 y), (10, plT 1 w h Z), (6, .ptr 0 0)]) (fun y => [.c [I64 0, I64 0, NIL], .c (encL cU (padL (G.take (y * w)) (w * h)))]) [0, 2, 42] rfl (0) ?_ ?_ ?_
        · refine ⟨[some 0, some 2], rfl, by first | trivial | decide, by first | rfl | (simp only [noO, Bool.and_true, Bool.and_eq_true]; first | assumption | (refine ⟨?_, ?_⟩ <;> assumption)) | (simp only [noO, *, Bool.and_true, Bool.true_and, Bool.and_self]; done), ?_, ?_⟩ <;> (repeat' first | exact trivial | exact CvB_n | exact CvB_d | exact CvB_o rfl | refine CvE_app ?_ ?_ | refine CvE_cons rfl ?_ ?_ | refine CvH_cons ?_ ?_ | refine CvB_c rfl ?_ | fail) <;> first | exact au_v | (first | exact hpp2 _ rfl | exact CvL.pure rfl | exact CvL.eq (congrArg (encL cU) (by rw [Nat.zero_mul, hz0])) (encL_pure cU _))
        · (try dsimp only); omega
        rintro y hy
        refine VC.reg tab_ok [] rfl ?_
        refine VX.meek rfl ?_
        refine VX.nil ?_
        refine VC.seq ?_
        refine VC.cond rfl (fun hc3 => ?_) (fun hc3 => ?_)
        · (try simp only [au_std] at hc3); have hyl : y < h := (by omega)
          have hyw : (y + 1) * w ≤ h * w := Nat.mul_le_mul_right w hyl
          have hyw2 : (y + 1) * w = y * w + w := (by rw [Nat.add_mul, Nat.one_mul])
          have hmy : (y : Int) * (w : Int) = ((y * w : Nat) : Int) := (Int.natCast_mul y w).symm
          refine VC.skip ?_
          refine VC.seq ?_
          refine VC.block ?_
          refine VC.reg tab_ok [] rfl ?_
          iterate 2 refine VX.meek rfl ?_
          refine VX.nil ?_
          refine VC.reg tab_ok [] rfl ?_
          iterate 2 refine VX.meek rfl ?_
          refine VX.nil ?_
          refine VC.block ?_
          refine VC.loopS (σ := Nat) (fun x => w - x) (fun x => x ≤ w) (fun x => [(47, I64 x), (10, plT 1 w h Z), (6, .ptr 0 0)]) (fun x => [.c [I64 0, I64 0, NIL], .c (encL cU (padL (G.take (y * w + x)) (w * h)))]) [0, 2, 11, 42, 43, 46] rfl (0) ?_ ?_ ?_
          · refine ⟨[some 0, some 1], rfl, by first | trivial | decide, by first | rfl | (simp only [noO, Bool.and_true, Bool.and_eq_true]; first | assumption | (refine ⟨?_, ?_⟩ <;> assumption)) | (simp only [noO, *, Bool.and_true, Bool.true_and, Bool.and_self]; done), ?_, ?_⟩ <;> (repeat' first | exact trivial | exact CvB_n | exact CvB_d | exact CvB_o rfl | refine CvE_app ?_ ?_ | refine CvE_cons rfl ?_ ?_ | refine CvH_cons ?_ ?_ | refine CvB_c rfl ?_ | fail) <;> first | exact au_v | (first | exact hpp _ rfl | exact CvL.pure rfl | exact CvL.pure (encL_pure cU _))
          · (try dsimp only); omega
          rintro x hx
          refine VC.reg tab_ok [] rfl ?_
          refine VX.meek rfl ?_
          refine VX.nil ?_
          refine VC.seq ?_
          refine VC.cond rfl (fun hc4 => ?_) (fun hc4 => ?_)
          · (try simp only [au_std] at hc4); have hxl : x < w := (by omega); have hil : y * w + x < w * h := (by omega)
            obtain ⟨c, hc1', hc2'⟩ := hat (y * w + x) hil
            have hst := padL_set (P := G) hil (by omega)
            have hix : (y : Int) * (w : Int) + (x : Int) = ((y * w + x : Nat) : Int) := (by rw [hmy]; omega)
            have hixn : ((y : Int) * (w : Int) + (x : Int)).toNat = y * w + x := (by rw [hix, Int.toNat_natCast])
            have hsl := padL_len (G.take (y * w + x)) (w * h)
            refine VC.skip ?_
            refine VC.seq ?_
            refine VC.block ?_
            refine VC.reg tab_ok [] rfl ?_
            iterate 2 refine VX.meek rfl ?_
            refine VX.nil ?_
            refine VC.regN tab_ok [] rfl ?_
            iterate 6 refine VX.meek rfl ?_
            refine VX.mul rfl rfl (by rw [hmy]; omega) ?_
            refine VX.meek rfl ?_
            refine VX.add rfl rfl (by rw [hix]; omega) ?_
            refine VX.idxS (m := y * w + x) (b := c) rfl rfl rfl rfl hix hc1' ?_; rw [hc2']
            refine VX.callT rfl rfl (CallT.frame (set_t w h Z (padL (G.take (y * w + x)) (w * h)) x y G[y * w + x]! hw.2 hh.2 hzl hsl (by omega) (by omega) (by omega) (by omega)) [1] rfl au_ci au_ci ?_)
            rintro _ _ ⟨rfl, rfl⟩
            refine frK au_co au_co ?_
            refine VX.nil ?_
            refine VC.regN tab_ok [] rfl ?_
            first | refine VX.add rfl rfl (by omega) ?_ | refine VX.meek rfl ?_
            refine VX.meek rfl ?_
            refine VX.nil ?_
            refine ⟨x + 1, by (try dsimp only); omega, ?_, (by refine ⟨[some 0, some 1], rfl, by first | trivial | decide, by first | rfl | (simp only [noO, Bool.and_true, Bool.and_eq_true]; first | assumption | (refine ⟨?_, ?_⟩ <;> assumption)) | (simp only [noO, *, Bool.and_true, Bool.true_and, Bool.and_self]; done), ?_, ?_⟩ <;> (repeat' first | exact trivial | exact CvB_n | exact CvB_d | exact CvB_o rfl | refine CvE_app ?_ ?_ | refine CvE_cons rfl ?_ ?_ | refine CvH_cons ?_ ?_ | refine CvB_c rfl ?_ | fail) <;> first | exact au_v | (first | exact hpp _ rfl | exact CvL.pure rfl | (rw [show y * w + (x + 1) = y * w + x + 1 from rfl, ← hst, hixn]; exact CvL.pure (encL_pure cU _))))⟩
            (try dsimp only); omega
          · (try simp only [au_std] at hc4); obtain rfl : w = x := (by omega)
            refine VC.exit ?_
            refine VC.regN tab_ok [] rfl ?_
            first | refine VX.add rfl rfl (by omega) ?_ | refine VX.meek rfl ?_
            refine VX.meek rfl ?_
            refine VX.nil ?_
            refine ⟨y + 1, by (try dsimp only); omega, ?_, (by refine ⟨[some 0, some 1], rfl, by first | trivial | decide, by first | rfl | (simp only [noO, Bool.and_true, Bool.and_eq_true]; first | assumption | (refine ⟨?_, ?_⟩ <;> assumption)) | (simp only [noO, *, Bool.and_true, Bool.true_and, Bool.and_self]; done), ?_, ?_⟩ <;> (repeat' first | exact trivial | exact CvB_n | exact CvB_d | exact CvB_o rfl | refine CvE_app ?_ ?_ | refine CvE_cons rfl ?_ ?_ | refine CvH_cons ?_ ?_ | refine CvB_c rfl ?_ | fail) <;> first | exact au_v | (first | exact hpp _ rfl | exact CvL.pure rfl | (rw [hyw2]; exact CvL.pure (encL_pure cU _))))⟩
            (try dsimp only); omega
        · (try simp only [au_std] at hc3); obtain rfl : h = y := (by omega)
          have hend : padL (G.take (h * w)) (w * h) = G := (by rw [List.take_of_length_le (by omega), ← hPl]; exact padL_self G)
          rw [hend]
          refine VC.view ([(10, .iptr (plC w h Z (.islc (encL cU G) Z.length none)) 0), (6, .ptr 0 0)]) ([.c [I64 0, I64 0, NIL]]) [] rfl (by refine ⟨[some 0], rfl, by first | trivial | decide, by first | rfl | (simp only [noO, Bool.and_true, Bool.and_eq_true]; first | assumption | (refine ⟨?_, ?_⟩ <;> assumption)) | (simp only [noO, *, Bool.and_true, Bool.true_and, Bool.and_self]; done), ?_, ?_⟩ <;> (repeat' first | exact trivial | exact CvB_n | exact CvB_d | exact CvB_o rfl | refine CvE_app ?_ ?_ | refine CvE_cons rfl ?_ ?_ | refine CvH_cons ?_ ?_ | refine CvB_c rfl ?_ | fail) <;> first | exact au_v | (first | exact CvL.pure rfl | exact Cv.iptr (cv_pl (Cv.pure (encL_pure cU _)) (Cv.fslc0 ⟨rfl, by simp⟩ (CvL.pure (encL_pure cU _)))))) ?_
          refine VC.exit ?_
          refine VC.reg tab_ok [] rfl ?_
          refine VX.meek rfl ?_
          refine VX.callP0 rfl rfl rfl (pgrid_n w h Z G Z.length (by rw [hPl, hzl]) hw.2 hh.2 hzl hPl hzb hPb) ?_
          refine VX.store rfl rfl rfl rfl rfl au_sR rfl ?_
          refine VX.meek rfl ?_
          refine VX.nil ?_
          refine VC.ret ?_
          exact ⟨trivial, _, rfl, Cv.tup (CvL.cons (Cv.agg (cv_g (Cv.pure (encL_pure cU _)))) (CvL.cons (Cv.pure rfl) CvL.nil))⟩
end
section
open Go.RowKit Go.Sort
set_option maxRecDepth 10000
set_option maxHeartbeats 1000000
theorem unpack_any (w h : Int) (b : ByteArray) : ∃ (rw rh : Nat) (G : List Int) (e : Int), CallP Try.prog 7 [I64 w, I64 h, .v (.string b)] (.tup [gT rw rh G, I64 e]) ∧ ((w < 1 ∨ 128 < w ∨ h < 1 ∨ 128 < h) → e = 17) ∧
    (1 ≤ w → w ≤ 128 → 1 ≤ h → h ≤ 128 → ((b.size : Int) < w * h → e = 3) ∧ (w * h < (b.size : Int) → e = 4) ∧ ((b.size : Int) = w * h → e = 0 ∧ (rw : Int) = w ∧ (rh : Int) = h ∧ G = strL b)) := by
  by_cases hA : w < 1 ∨ 128 < w ∨ h < 1 ∨ 128 < h
  · exact ⟨0, 0, [], 17, unpack_bad w h b (by unfold sideB; simp; omega), fun _ => rfl, fun _ _ _ _ => by omega⟩
  · obtain ⟨a, rfl⟩ := Int.eq_ofNat_of_zero_le (show 0 ≤ w by omega)
    obtain ⟨c, rfl⟩ := Int.eq_ofNat_of_zero_le (show 0 ≤ h by omega)
    have hm : (a : Int) * (c : Int) = ((a * c : Nat) : Int) := (Int.natCast_mul a c).symm
    rw [hm]
    rcases Nat.lt_trichotomy b.size (a * c) with k | k | k
    · exact ⟨0, 0, [], 3, unpack_short a c b (by omega) (by omega) k, fun q => absurd q hA, fun _ _ _ _ => ⟨fun _ => rfl, fun q => by omega, fun q => by omega⟩⟩
    · exact ⟨a, c, strL b, 0, unpack_p a c b (by omega) (by omega) k, fun q => absurd q hA, fun _ _ _ _ => ⟨fun q => by omega, fun q => by omega, fun _ => ⟨rfl, rfl, rfl, rfl⟩⟩⟩
    · exact ⟨0, 0, [], 4, unpack_long a c b (by omega) (by omega) k, fun q => absurd q hA, fun _ _ _ _ => ⟨fun q => by omega, fun _ => rfl, fun q => by omega⟩⟩
theorem imagePacks_all {t0 t1 t2 t3 : List T} (h0 : shGrid.wt t0) (h1 : shI.wt t1) (h2 : shI.wt t2) (h3 : Sh.str.wt t3) : CallP Try.prog 3 [shGrid.tree t0, shI.tree t1, shI.tree t2, Sh.str.tree t3] (BL true) := by
  obtain ⟨gw, gh, B, rfl, hgw, hgh⟩ := wt_grid h0
  obtain ⟨w, rfl, hw⟩ := wt_i64 h1
  obtain ⟨h, rfl, hh⟩ := wt_i64 h2
  obtain ⟨b, rfl, hbs⟩ := h3
  clear h0 h1 h2
  show CallP Try.prog 3 [.agg (gridL gw gh B), I64 w, I64 h, .v (.string b)] (BL true)
  have hmk := made_p gw gh B hgw hgh
  have hpl := padL_len (strL B) ((gw % 24 + 1) * (gh % 24 + 1))
  have hpb := padL_bd (strL_bd B) ((gw % 24 + 1) * (gh % 24 + 1))
  generalize padL (strL B) ((gw % 24 + 1) * (gh % 24 + 1)) = px at *
  have hw1 : 1 ≤ gw % 24 + 1 ∧ gw % 24 + 1 ≤ 24 := by omega
  have hh1 : 1 ≤ gh % 24 + 1 ∧ gh % 24 + 1 ≤ 24 := by omega
  generalize gw % 24 + 1 = W at hmk hpl hpb hw1
  generalize gh % 24 + 1 = H at hmk hpl hpb hh1
  have hpk := pack_p W H px (by omega) (by omega) hpl hpb
  have hpk0 : CallP Try.prog 5 [gT 0 0 []] (.v (.string .empty)) := pack_p 0 0 [] (by omega) (by omega) rfl (by simp)
  obtain ⟨rw', rh', G, e, hun, hA, hC⟩ := unpack_any w h b
  refine CallP.intro2 au_pu au_pu ?_
  refine CallT.intro tab_ok Try.func3 rfl (by kernel_rfl) (Nat.le_of_ble_eq_true rfl) ?_
  refine VC.reg tab_ok [4] rfl ?_
  refine VX.newI rfl rfl ?_
  refine VX.meek rfl ?_
  refine VX.nil ?_
  refine VC.reg tab_ok [] rfl ?_
  first | refine VX.meek rfl ?_ | refine VX.loadI rfl rfl au_l ?_ | refine VX.loadP rfl rfl rfl au_l ?_
  refine VX.callP0 rfl rfl rfl (hmk) ?_
  iterate 5 refine VX.meek rfl ?_
  refine VX.new rfl rfl ?_
  refine VX.store rfl rfl rfl rfl rfl au_sR rfl ?_
  iterate 3 refine VX.meek rfl ?_
  refine VX.nil ?_
  refine VC.view ([(9, .iptr [I64 W, I64 H, .islc (encL cU px) px.length none] 0)]) ([]) [1, 2, 3, 12] rfl (by refine ⟨[], rfl, by first | trivial | decide, by first | rfl | (simp only [noO, Bool.and_true, Bool.and_eq_true]; first | assumption | (refine ⟨?_, ?_⟩ <;> assumption)) | (simp only [noO, *, Bool.and_true, Bool.true_and, Bool.and_self]; done), ?_, ?_⟩ <;> (repeat' first | exact trivial | exact CvB_n | exact CvB_d | exact CvB_o rfl | refine CvE_app ?_ ?_ | refine CvE_cons rfl ?_ ?_ | refine CvH_cons ?_ ?_ | refine CvB_c rfl ?_ | fail) <;> first | exact au_v | ((refine Cv.fptr ⟨rfl, by simp⟩ ?_; exact CvL.eq rfl (by simp only [T.pureL, T.pure, encL_pure]; rfl)))) ?_
  refine VC.seq ?_
  refine VC.drw tab_ok [] [_, _, _, _, _, _, _, _, _, _, _, _, _, _, _] rfl (by kernel_rfl) (by kernel_rfl) ?_
  iterate 4 refine VX.meek rfl ?_
  refine' VX.merge (d := 31) [_, _, _, _, _, _] rfl ?_ rfl ?_
  rotate_left
  · refine VX.guard rfl rfl (fun hb2_3 => ?_) (fun hb2_3 => ?_)
    · have ghb2_3 := hb2_3
      try simp only [au_std, Bool.not_true, Bool.not_false] at ghb2_3
      first | refine VX.meek rfl ?_ | refine VX.loadI rfl rfl au_l ?_ | refine VX.loadP rfl rfl rfl au_l ?_
      refine VX.guardT rfl rfl hb2_3 ?_
      refine VX.callP0 rfl rfl rfl (hpk) ?_
      refine VX.guardT rfl rfl hb2_3 ?_
      refine VX.meek rfl ?_
      refine VX.guardT rfl rfl hb2_3 ?_
      refine VX.strJ rfl rfl rfl rfl rfl rfl rfl hpl.symm ?_
      refine VX.guardT rfl rfl hb2_3 ?_
      refine VX.meek rfl ?_
      refine VX.pickO rfl (fun _ => rfl) ?_
      exact VX.nil ⟨rfl, rfl⟩
    · refine VX.guardF rfl rfl hb2_3 ?_
      iterate 3 refine VX.guardF rfl rfl hb2_3 ?_
      exact VX.pickO rfl (fun h => absurd (h.symm.trans hb2_3) (by decide)) (VX.nil ⟨rfl, rfl⟩)
  refine VX.meek rfl ?_
  refine' VX.merge (d := 36) [_, _, _, _] rfl ?_ rfl ?_
  rotate_left
  · refine VX.guard rfl rfl (fun hb2_10 => ?_) (fun hb2_10 => ?_)
    · have ghb2_10 := hb2_10
      try simp only [au_std, Bool.not_true, Bool.not_false] at ghb2_10
      refine VX.meek rfl ?_
      refine VX.guardT rfl rfl hb2_10 ?_
      refine VX.callP rfl rfl hpk0 au_wk rfl ?_
      refine VX.guardT rfl rfl hb2_10 ?_
      refine VX.meek rfl ?_
      refine VX.pickO rfl (fun _ => rfl) ?_
      exact VX.nil ⟨rfl, rfl⟩
    · refine VX.guardF rfl rfl hb2_10 ?_
      refine VX.guardF rfl rfl hb2_10 ?_
      exact VX.pickO rfl (fun h => absurd (h.symm.trans hb2_10) (by decide)) (VX.nil ⟨rfl, rfl⟩)
  iterate 2 refine VX.nil ?_
  refine VC.cond rfl (fun hc0 => ?_) (fun hc0 => ?_)
  · (try simp only [au_std] at hc0); have hbl : 20000 < (b.size : Int) := (by rcases hc0 with (k | k) | k; exact k; exact absurd trivial k; exact absurd rfl k)
    refine VC.reg tab_ok [] rfl ?_
    iterate 4 refine VX.meek rfl ?_
    refine' VX.merge (d := 42) [_, _] rfl ?_ rfl ?_
    rotate_left
    · refine VX.guard rfl rfl (fun hb3_3 => ?_) (fun hb3_3 => ?_)
      · have ghb3_3 := hb3_3
        try simp only [au_std, Bool.not_true, Bool.not_false] at ghb3_3
        refine VX.callP0 rfl rfl rfl (awake25_p) ?_
        refine VX.pickA rfl (fun _ => rfl) ?_
        exact VX.nil ⟨rfl, rfl⟩
      · exact VX.pickA rfl (fun h => absurd (h.symm.trans hb3_3) (by decide)) (VX.nil ⟨rfl, rfl⟩)
    refine VX.meek rfl ?_
    refine VX.nil ?_
    refine VC.ret ?_
    exact ⟨trivial, _, rfl, Cv.eq (congrArg BL (by simp [hbl])) rfl⟩
  · (try simp only [au_std] at hc0); have hbl : (b.size : Int) ≤ 20000 := hc0.1.1
    refine VC.skip ?_
    refine VC.reg tab_ok [] rfl ?_
    iterate 3 refine VX.meek rfl ?_
    refine VX.callP0 rfl rfl rfl (hun) ?_
    iterate 3 refine VX.meek rfl ?_
    refine VX.new rfl rfl ?_
    refine VX.store rfl rfl rfl rfl rfl au_sR rfl ?_
    refine VX.meek rfl ?_
    refine VX.nil ?_
    refine VC.view ([(13, .iptr [I64 rw', I64 rh', .islc (encL cU G) G.length none] 0)]) ([]) [1, 2, 3, 14] rfl (by refine ⟨[], rfl, by first | trivial | decide, by first | rfl | (simp only [noO, Bool.and_true, Bool.and_eq_true]; first | assumption | (refine ⟨?_, ?_⟩ <;> assumption)) | (simp only [noO, *, Bool.and_true, Bool.true_and, Bool.and_self]; done), ?_, ?_⟩ <;> (repeat' first | exact trivial | exact CvB_n | exact CvB_d | exact CvB_o rfl | refine CvE_app ?_ ?_ | refine CvE_cons rfl ?_ ?_ | refine CvH_cons ?_ ?_ | refine CvB_c rfl ?_ | fail) <;> first | exact au_v | ((refine Cv.fptr ⟨rfl, by simp⟩ ?_; exact CvL.eq rfl (by simp only [T.pureL, T.pure, encL_pure]; rfl)))) ?_
    refine VC.seq ?_
    refine VC.block ?_
    refine VC.reg tab_ok [] rfl ?_
    iterate 3 refine VX.meek rfl ?_
    refine' VX.merge (d := 56) [_, _, _] rfl ?_ rfl ?_
    rotate_left
    · refine VX.guard rfl rfl (fun hb5_2 => ?_) (fun hb5_2 => ?_)
      · have ghb5_2 := hb5_2
        try simp only [au_std, Bool.not_true, Bool.not_false] at ghb5_2
        refine VX.meek rfl ?_
        refine VX.guardT rfl rfl hb5_2 ?_
        refine VX.meek rfl ?_
        refine VX.pickO rfl (fun _ => rfl) ?_
        exact VX.nil ⟨rfl, rfl⟩
      · refine VX.guardF rfl rfl hb5_2 ?_
        exact VX.pickO rfl (fun h => absurd (h.symm.trans hb5_2) (by decide)) (VX.nil ⟨rfl, rfl⟩)
    refine VX.meek rfl ?_
    refine' VX.merge (d := 60) [_, _, _] rfl ?_ rfl ?_
    rotate_left
    · refine VX.guard rfl rfl (fun hb5_6 => ?_) (fun hb5_6 => ?_)
      · have ghb5_6 := hb5_6
        try simp only [au_std, Bool.not_true, Bool.not_false] at ghb5_6
        refine VX.meek rfl ?_
        refine VX.guardT rfl rfl hb5_6 ?_
        refine VX.meek rfl ?_
        refine VX.pickO rfl (fun _ => rfl) ?_
        exact VX.nil ⟨rfl, rfl⟩
      · refine VX.guardF rfl rfl hb5_6 ?_
        exact VX.pickO rfl (fun h => absurd (h.symm.trans hb5_6) (by decide)) (VX.nil ⟨rfl, rfl⟩)
    refine VX.meek rfl ?_
    refine' VX.merge (d := 64) [_, _, _] rfl ?_ rfl ?_
    rotate_left
    · refine VX.guard rfl rfl (fun hb5_10 => ?_) (fun hb5_10 => ?_)
      · have ghb5_10 := hb5_10
        try simp only [au_std, Bool.not_true, Bool.not_false] at ghb5_10
        refine VX.meek rfl ?_
        refine VX.guardT rfl rfl hb5_10 ?_
        refine VX.meek rfl ?_
        refine VX.pickO rfl (fun _ => rfl) ?_
        exact VX.nil ⟨rfl, rfl⟩
      · refine VX.guardF rfl rfl hb5_10 ?_
        exact VX.pickO rfl (fun h => absurd (h.symm.trans hb5_10) (by decide)) (VX.nil ⟨rfl, rfl⟩)
    refine VX.meek rfl ?_
    refine VX.nil ?_
    refine VC.cond rfl (fun hc1 => ?_) (fun hc1 => ?_)
    · (try simp only [au_std] at hc1); obtain rfl := hA (by omega)
      refine VC.reg tab_ok [] rfl ?_
      refine VX.callP0 rfl rfl rfl (awake25_p) ?_
      refine VX.meek rfl ?_
      refine' VX.merge (d := 69) [_, _, _] rfl ?_ rfl ?_
      rotate_left
      · refine VX.guard rfl rfl (fun hb6_1 => ?_) (fun hb6_1 => ?_)
        · have ghb6_1 := hb6_1
          try simp only [au_std, Bool.not_true, Bool.not_false] at ghb6_1
          refine VX.meek rfl ?_
          refine VX.guardT rfl rfl hb6_1 ?_
          refine VX.meek rfl ?_
          refine VX.pickA rfl (fun _ => rfl) ?_
          exact VX.nil ⟨rfl, rfl⟩
        · refine VX.guardF rfl rfl hb6_1 ?_
          exact VX.pickA rfl (fun h => absurd (h.symm.trans hb6_1) (by decide)) (VX.nil ⟨rfl, rfl⟩)
      refine VX.meek rfl ?_
      refine VX.nil ?_
      refine VC.ret ?_
      exact ⟨trivial, _, rfl, Cv.eq (congrArg BL (by simp)) rfl⟩
    · (try simp only [au_std] at hc1); obtain ⟨hC3, hC4, hC0⟩ := hC (by omega) (by omega) (by omega) (by omega)
      have hwh : 0 ≤ w * h ∧ w * h ≤ 128 * 128 := ⟨Int.mul_nonneg (by omega) (by omega), Int.mul_le_mul (c := 128) (d := 128) (by omega) (by omega) (by omega) (by omega)⟩
      refine VC.reg tab_ok [] rfl ?_
      iterate 4 refine VX.meek rfl ?_
      refine VX.mul rfl rfl (by omega) ?_
      iterate 2 refine VX.meek rfl ?_
      refine VX.nil ?_
      refine VC.cond rfl (fun hc2 => ?_) (fun hc2 => ?_)
      · (try simp only [au_std] at hc2); obtain rfl := hC3 hc2
        refine VC.reg tab_ok [] rfl ?_
        refine VX.callP0 rfl rfl rfl (awake25_p) ?_
        refine VX.meek rfl ?_
        refine' VX.merge (d := 81) [_, _, _] rfl ?_ rfl ?_
        rotate_left
        · refine VX.guard rfl rfl (fun hb8_1 => ?_) (fun hb8_1 => ?_)
          · have ghb8_1 := hb8_1
            try simp only [au_std, Bool.not_true, Bool.not_false] at ghb8_1
            refine VX.meek rfl ?_
            refine VX.guardT rfl rfl hb8_1 ?_
            refine VX.meek rfl ?_
            refine VX.pickA rfl (fun _ => rfl) ?_
            exact VX.nil ⟨rfl, rfl⟩
          · refine VX.guardF rfl rfl hb8_1 ?_
            exact VX.pickA rfl (fun h => absurd (h.symm.trans hb8_1) (by decide)) (VX.nil ⟨rfl, rfl⟩)
        refine VX.meek rfl ?_
        refine VX.nil ?_
        refine VC.ret ?_
        exact ⟨trivial, _, rfl, Cv.eq (congrArg BL (by simp)) rfl⟩
      · (try simp only [au_std] at hc2)
        refine VC.reg tab_ok [] rfl ?_
        iterate 4 refine VX.meek rfl ?_
        refine VX.mul rfl rfl (by omega) ?_
        iterate 2 refine VX.meek rfl ?_
        refine VX.nil ?_
        refine VC.cond rfl (fun hc3 => ?_) (fun hc3 => ?_)
        · (try simp only [au_std] at hc3); obtain rfl := hC4 hc3
          refine VC.reg tab_ok [] rfl ?_
          refine VX.callP0 rfl rfl rfl (awake25_p) ?_
          refine VX.meek rfl ?_
          refine' VX.merge (d := 93) [_, _, _] rfl ?_ rfl ?_
          rotate_left
          · refine VX.guard rfl rfl (fun hb10_1 => ?_) (fun hb10_1 => ?_)
            · have ghb10_1 := hb10_1
              try simp only [au_std, Bool.not_true, Bool.not_false] at ghb10_1
              refine VX.meek rfl ?_
              refine VX.guardT rfl rfl hb10_1 ?_
              refine VX.meek rfl ?_
              refine VX.pickA rfl (fun _ => rfl) ?_
              exact VX.nil ⟨rfl, rfl⟩
            · refine VX.guardF rfl rfl hb10_1 ?_
              exact VX.pickA rfl (fun h => absurd (h.symm.trans hb10_1) (by decide)) (VX.nil ⟨rfl, rfl⟩)
          refine VX.meek rfl ?_
          refine VX.nil ?_
          refine VC.ret ?_
          exact ⟨trivial, _, rfl, Cv.eq (congrArg BL (by simp)) rfl⟩
        · (try simp only [au_std] at hc3); obtain ⟨rfl, rfl, rfl, rfl⟩ := hC0 (by omega)
          have hGl : (strL b).length = rw' * rh' := (by rw [strL_len]; have : ((rw' * rh' : Nat) : Int) = (rw' : Int) * (rh' : Int) := Int.natCast_mul _ _; omega)
          have hgp : T.pureL [I64 rw', I64 rh', .islc (encL cU (strL b)) (strL b).length none] = true := by simp only [T.pureL, T.pure, encL_pure]; rfl
          have hpk2 : CallP Try.prog 5 [gT rw' rh' (strL b)] (.v (.string b)) := by
            have := pack_p rw' rh' (strL b) (by omega) (by omega) hGl (strL_bd b)
            rwa [strL_u8] at this
          refine VC.skip ?_
          refine VC.reg tab_ok [] rfl ?_
          refine VX.callP0 rfl rfl rfl (awake25_p) ?_
          refine VX.meek rfl ?_
          refine VX.guardT rfl rfl (rfl) ?_
          refine VX.meek rfl ?_
          refine VX.guardT rfl rfl (rfl) ?_
          iterate 3 refine VX.meek rfl ?_
          refine VX.guardT rfl rfl (rfl) ?_
          first | refine VX.meek rfl ?_ | refine VX.loadI rfl rfl au_l ?_ | refine VX.loadP rfl rfl rfl au_l ?_
          refine VX.guardT rfl rfl (rfl) ?_
          refine VX.meek rfl ?_
          refine VX.guardT rfl rfl (rfl) ?_
          refine VX.meek rfl ?_
          refine VX.guardT rfl rfl (rfl) ?_
          refine VX.meek rfl ?_
          refine VX.guardT rfl rfl (rfl) ?_
          refine VX.bytes tab_ok rfl rfl rfl rfl rfl rfl rfl rfl (by unfold maxLen at hbs; omega) ?_
          refine VX.guardT rfl rfl (rfl) ?_
          refine VX.callB rfl rfl (is25_p rw' rh' (strL b) ⟨by omega, by omega⟩ ⟨by omega, by omega⟩ hGl (strL_bd b)) rfl (CvL.cons (Cv.eq rfl hgp) (CvL.cons (Cv.pure rfl) (CvL.cons (Cv.pure rfl) (CvL.cons (by rw [strL_len]; exact Cv.fslc0 ⟨rfl, by simp⟩ (CvL.eq (strL_enc b) (encL_pure cU _))) CvL.nil)))) ?_
          iterate 2 refine VX.meek rfl ?_
          refine VX.guardT rfl rfl (rfl) ?_
          first | refine VX.meek rfl ?_ | refine VX.loadI rfl rfl au_l ?_ | refine VX.loadP rfl rfl rfl au_l ?_
          refine VX.guardT rfl rfl (rfl) ?_
          refine VX.callP0 rfl rfl rfl (hpk2) ?_
          refine VX.guardT rfl rfl (rfl) ?_
          refine VX.meek rfl ?_
          refine VX.guardT rfl rfl (rfl) ?_
          iterate 3 refine VX.meek rfl ?_
          refine VX.nil ?_
          refine VC.ret ?_
          exact ⟨trivial, _, rfl, Cv.eq (congrArg BL (by simp)) rfl⟩
end
section
open Go.ChangeShapes Go.WideShapes Go.ChangeAt Go.RowKit Go.WideElems
def rowed (P : Program) (ts : List TypeId) : Bool := ts.all fun t => P.readableRec t && decide (t < P.types.size)
theorem trodAll_below {H : Type} {enc : TypeId × Value → H} {P : Program} (hl : laidOutB P = true) {W W' : World} (hb : Below W.heap.size W W') :
    ∀ {ts : List TypeId} {vs : List Value} {ds : List (DataW H)} {p : List MemPlace}, rowed P ts = true → (∀ x ∈ p, x.block < W.heap.size) →
      DataW.TrodAll enc P W 0 (fun _ => true) true ts vs ds p → DataW.TrodAll enc P W' 0 (fun b => decide (b < W.heap.size)) true ts vs ds p
  | [], _, _, _, _, _, h => by
    obtain ⟨rfl, rfl, rfl⟩ := trodAll_nil h
    exact trodAll_mk0
  | t :: ts, _, _, _, hr, hlt, h => by
    obtain ⟨v, vs1, d, ds1, a, b, rfl, rfl, rfl, h1, h2⟩ := trodAll_cons h
    simp only [rowed, List.all_cons, Bool.and_eq_true, decide_eq_true_eq] at hr
    refine trodAll_cons_mk (Below.trod hl hr.1.1 hr.1.2 h1 hb (fun x hx => hlt x (by simp [hx]))) ?_
    exact trodAll_below hl hb (by simpa [rowed] using hr.2) (fun x hx => hlt x (by simp [hx])) h2
theorem post_law {H : Type} {enc : TypeId × Value → H} {P : Program} {f : Func} {s : ChangeSpec} {W W' : World} {args : Array Value} {ds gs : List (DataW H)} {before : List MemPlace} {tb : TypeId}
    (hl : laidOutB P = true) (hps : rowed P f.params.toList = true) (hvs : varsRowed P s.vars = true) (hres : f.resultTypes = #[tb]) (htb : P.underlying tb = some .bool)
    (hW : DataW.Whole enc P f.params.toList s.vars false W args.toList ds gs before)
    (h1 : (s.fn H (ds ++ gs)).results = [.lit (.bool true)]) (h2 : (s.fn H (ds ++ gs)).args = ds) (h3 : (s.fn H (ds ++ gs)).vars = gs)
    (hb : Below W.heap.size W W') : s.post enc P f false true false false W args (.bool true) W' := by
  have hlt := hW.lt
  have hW' := hW
  obtain ⟨p, q, hA, hV, rfl, hfz, hnd⟩ := hW
  refine ⟨ds, gs, p ++ q, [], p, q, hW', ?_, ?_, ?_, hb.frame _, fun h => by cases h⟩
  · rw [h1, hres]
    exact trodAll_cons_mk (shut_bool htb true) trodAll_mk0
  · rw [h2]
    exact trodAll_below hl hb hps (fun x hx => hlt x (by simp [hx])) hA
  · rw [h3]
    exact Below.trodVars hl hb hvs hV
end
end Go.Proofs.Ytnngelggbljchaa
