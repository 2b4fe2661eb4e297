/-
  WALK of layer 25's reference: Long.
-/
import Derived.Test.YtdljlpialbebeaaImgS
namespace Go.Proofs.Ytdljlpialbebeaa
open Go.RowKit

theorem app8s {ops : Array Oper} {rest : List Oper} {o : Oper} {a : Act} {Q : Exit → Act → World → Prop} (w : World) (hgd : o.guard = none) (s x : Operand)
    (ho : o.op = .call { callee := .builtin .append, args := #[s, x], argTypes := #[28, 28] })
    (B : Nat) (v : Value) (acc : List UInt8) (hs : a.eval s = v) (hown : Own8 w B v acc)
    (ad : Addr) (m c : Nat) (news : List UInt8) (hx : a.eval x = .slice (some ad) m c) (hl : news.length = m)
    (hnews : ∀ j, j < news.length → w.cell? (ad.add j) = some (.int .u8 (byteL news j))) (hlen : acc.length + m ≤ 140737488355328) (hB : B ≤ w.heap.size)
    (h : ∀ A c' w', Own8 w' B (.slice A (acc.length + m) c') (acc ++ news) → Below B w w' → wpList Try.prog ops Q rest (a.put o.dst (.slice A (acc.length + m) c')) w') : wpList Try.prog ops Q (o :: rest) a w := by
  refine app8 w hgd s x ho B v acc hs hown ad m c news hx hl hnews hlen hB fun v' w' hown' hb => ?_
  obtain ⟨A, c', hv, _⟩ := hown'.form
  have e : (acc ++ news).length = acc.length + m := by rw [List.length_append, hl]
  rw [e] at hv
  rw [hv] at hown' ⊢
  exact h A c' w' hown' hb

def RefLongPost (w : World) (r : List UInt8 × Nat) (e : Ending) (w' : World) : Prop := ∃ v, e = .returned (.tuple #[v, .int .i64 r.2]) ∧ Own8 w' w.heap.size v r.1 ∧ Below w.heap.size w w'
theorem refLong_err (w w' : World) (c : Nat) (h : Below w.heap.size w w') : RefLongPost w ([], c) (.returned (.tuple #[.slice none 0 0, .int .i64 c])) w' := ⟨_, rfl, Own8.nil _ _, h⟩
theorem errLong_eq : errLong = 4 := rfl
theorem errShort_eq : errShort = 3 := rfl

set_option maxRecDepth 100000 in
set_option maxHeartbeats 1000000 in
theorem refLong_walk (b n cap : Nat) (l : List UInt8) (w : World) (hl : l.length = n) (hn : n ≤ 131072) (hcap : n ≤ cap) (hrow : Row8 w b l) :
    Calls Try.prog 10 #[.slice (some ⟨b, 0, none⟩) n cap] w (RefLongPost w (long l)) := by
  have hbw : b < w.heap.size := hrow.1
  rw [long_eq l (by rw [hl]; exact hn)]
  generalize hRR : longR l [] = RR
  obtain ⟨out, code⟩ := RR
  have HRR := Lib.hid hRR; clear hRR
  have HL := Lib.hid hl; clear hl
  have HROW := Lib.hid hrow; clear hrow
  have hd0 : decide ((131072 : Int) < (n : Int)) = false := by simp; omega
  go_enter Try.func10, Try.ntmps10
  go_wp2_with fail
  go_loopw [4, 5, 6, 7] (fun v iv _ _ wr => ∃ (i : Nat) (acc : List UInt8), i ≤ n ∧ iv = .int .i64 i ∧ acc.length ≤ 65536 ∧ Own8 wr w.heap.size v acc ∧ Hid (longR (l.drop i) acc = (out, code)) ∧ Hid (Row8 wr b l) ∧ Below w.heap.size w wr) (fun _ iv _ _ _ => n - (intOf iv).toNat)
  case atStart => exact ⟨0, [], Nat.zero_le _, rfl, by simp, Own8.nil _ _, HRR.out, HROW, Below.refl _ _⟩
  case round =>
    obtain ⟨i, acc, hi, rfl, hal, hown, hinv, hR, hb⟩ := hrel
    by_cases hlt : i < n
    · have hc := hR.out.2 i (by rw [HL.out]; exact hlt)
      have hdr : l.drop i = l.getD i 0 :: l.drop (i + 1) := by
        have hl : i < l.length := by rw [HL.out]; exact hlt
        rw [List.drop_eq_getElem_cons hl]
        congr 1
        simp [List.getD, List.getElem?_eq_getElem hl]
      have hcc := longR_cons (l.getD i 0) (l.drop (i + 1)) acc
      rw [← hdr, hinv.out] at hcc
      have hlr : (l.drop (i + 1)).length = n - (i + 1) := by rw [List.length_drop, HL.out]
      have hbt := (l.getD i 0).toNat_lt
      generalize hB : l.getD i 0 = y at hcc hbt
      have hx2 : byteL l i = (y.toNat : Int) := by unfold byteL; rw [hB]
      rw [hx2] at hc
      generalize hy : y.toNat = m at hc hbt
      have HN := Lib.hid hy; have HC := Lib.hid hcc; have HLR := Lib.hid hlr
      clear hy hcc hlr hdr hB hx2 hinv
      by_cases h128 : m < 128
      · by_cases hsh : n - (i + 1) < m + 1
        · have hfin : Hid ((out, code) = ([], errShort)) := by
            show _ = _
            rw [HC.out, stepL_plain_no (by rw [HN.out]; exact h128) (by rw [HLR.out, HN.out]; exact hsh)]
          go_wp2_with fail
          go_ret2
          rw [hfin.out, errShort_eq]
          exact refLong_err w _ 3 hb
        · have hstep := Lib.hid (stepL_plain (n := y) (rest := l.drop (i + 1)) (by rw [HN.out]; exact h128) (by rw [HLR.out, HN.out]; exact hsh))
          have hsl := fun W => Lib.run_slice_window (P := Try.prog) W 28 5 Try.underlying28 Try.sizeOf5 b 0 n cap (i + 1) (i + 1 + (m + 1)) (by omega) (by omega)
          simp only [Nat.zero_add, Nat.add_sub_cancel_left, show ((i + 1 + (m + 1) : Nat) : Int) = (i : Int) + 1 + (m : Int) + 1 by omega, show ((i + 1 : Nat) : Int) = (i : Int) + 1 by omega] at hsl
          go_wp2_with (at_builtin; refine app8s _ rfl (.tmp 31) (.tmp 38) rfl w.heap.size _ acc rfl hown ⟨b, i + 1, none⟩ (m + 1) (cap - (i + 1)) ((l.drop (i + 1)).take (m + 1)) rfl ?d1 ?d2 ?d3 ?d4 ?_)
          case d1 => rw [List.length_take, HLR.out]; omega
          case d2 =>
            intro j hj
            have hj' : j < m + 1 := by rw [List.length_take] at hj; omega
            have e : byteL ((l.drop (i + 1)).take (m + 1)) j = byteL l (i + 1 + j) := by
              unfold byteL
              simp [List.getD, hj', List.getElem?_drop]
            rw [e]
            have := hR.out.2 (i + 1 + j) (by rw [HL.out]; omega)
            rw [← this]
            by_cases h0 : j = 0
            · subst h0; simp [Addr.add]
            · simp [Addr.add, h0]
          case d3 => omega
          case d4 => exact hb.size
          intro A2 c2 w2 hown2 h2
          have hb2 : Below w.heap.size w w2 := hb.trans h2
          have hR2 : Hid (Row8 w2 b l) := hR.out.below h2 hbw
          clear hown hb h2 hR hsl hc
          generalize hLL : acc.length + (m + 1) = L at hown2 ⊢
          have HLL := Lib.hid hLL; clear hLL
          by_cases hov : 65536 < L
          · have hfin : Hid ((out, code) = ([], errLong)) := by
              show _ = _
              rw [HC.out, hstep.out]
              simp only
              rw [if_pos (by have := HLL.out; rw [List.length_take, HLR.out, HN.out]; omega)]
            go_wp2_with fail
            go_ret2
            rw [hfin.out, errLong_eq]
            exact refLong_err w _ 4 hb2
          · have hfin : Hid (longR (l.drop (i + m + 2)) (acc ++ (l.drop (i + 1)).take (m + 1)) = (out, code)) := by
              show _ = _
              rw [HC.out, hstep.out]
              simp only
              rw [if_neg (by have := HLL.out; rw [List.length_take, HLR.out, HN.out]; omega), List.drop_drop, HN.out]
              congr 2; omega
            go_wp2_with fail
            go_roundw
            case rel =>
              refine ⟨i + m + 2, _, by omega, by go_num, ?_, hown2, hfin.out, hR2, hb2⟩
              have := HLL.out
              rw [List.length_append, List.length_take, HLR.out]; omega
            case measure => simp [intOf]; omega
      · by_cases hsh : i + 1 = n
        · have hfin : Hid ((out, code) = ([], errShort)) := by
            show _ = _
            rw [HC.out, stepL_run_no (by rw [HN.out]; exact h128) (by rw [HLR.out]; omega)]
          have hq : decide ((n : Int) ≤ (i : Int) + 1) = true := by simp; omega
          have HSH := Lib.hid hsh; clear hsh
          go_wp2_with fail
          go_ret2
          rw [hfin.out, errShort_eq]
          exact refLong_err w _ 3 hb
        · have hq : decide ((n : Int) ≤ (i : Int) + 1) = false := by simp; omega
          have hq2 : ¬ (n : Int) ≤ (i : Int) + 1 := by omega
          have hstep := Lib.hid (stepL_run (n := y) (rest := l.drop (i + 1)) (by rw [HN.out]; exact h128) (by rw [HLR.out]; omega))
          have hz0 : (l.drop (i + 1)).getD 0 0 = l.getD (i + 1) 0 := by simp [List.getD]
          have hz1 : byteL l (i + 1) = ((l.getD (i + 1) 0).toNat : Int) := rfl
          generalize hz : l.getD (i + 1) 0 = z at hz0 hz1
          have HZ0 := Lib.hid hz0; have HZ1 := Lib.hid hz1; clear hz0 hz1 hz
          have hm125 : Hid (∃ q : Nat, m = q + 125 ∧ 3 ≤ q ∧ q ≤ 130) := ⟨m - 125, by omega, by omega, by omega⟩
          have h128' : decide ((m : Int) < 128) = false := by simp; omega
          go_wp2_with fail
          clear hc
          obtain ⟨wo, rfl⟩ : ∃ wo : World, wo = wr := ⟨_, rfl⟩
          go_loopw [4, 7] (fun v kv wz => ∃ (k : Nat), k ≤ m - 125 ∧ kv = .int .i64 k ∧ (∃ A c, v = .slice A (acc.length + k) c) ∧ Own8 wz w.heap.size v (acc ++ List.replicate k z) ∧ Hid (Row8 wz b l) ∧ Below w.heap.size w wz) (fun _ kv _ => 200 - (intOf kv).toNat)
          case atStart =>
            obtain ⟨A, c, hv, _⟩ := hown.form
            exact ⟨0, by omega, rfl, ⟨A, c, hv⟩, by simpa using hown, hR, hb⟩
          case round =>
            clear hown hb hR
            obtain ⟨wz, rfl⟩ : ∃ wz : World, wz = wr := ⟨_, rfl⟩
            obtain ⟨k, hk, rfl, ⟨A, c, rfl⟩, hown, hR, hb⟩ := hrel
            have hc := hR.out.2 (i + 1) (by rw [HL.out]; omega)
            rw [HZ1.out] at hc
            by_cases hk2 : k < m - 125
            · go_wp2_with (at_builtin; refine app8s _ rfl (.tmp 54) (.tmp 59) rfl w.heap.size _ (acc ++ List.replicate k z) rfl (hown.alloc _) ⟨wz.heap.size, 0, none⟩ 1 1 [z] rfl rfl ?c1 ?c2 ?c3 ?_)
              case c1 =>
                first
                  | rfl
                  | (intro j hj
                     match j, hj with
                     | 0, _ => simp [Addr.add]; rfl)
              case c2 => rw [List.length_append, List.length_replicate]; omega
              case c3 => have := hb.size; simp; omega
              intro A3 c3 w3 hown3 h3
              have hb3 : Below w.heap.size w w3 := (hb.alloc hb.size _).trans h3
              have hR3 : Hid (Row8 w3 b l) := by
                have h : Row8 (wz.alloc _) b l := hR.out.next ((Below.refl _ _).alloc (Nat.le_refl _) (.cells #[.int .u8 (z.toNat : Int)] 5))
                exact h.below h3 hbw
              rw [← List.replicate_succ'] at hown3
              clear hown hb h3 hR hc
              go_wp2_with fail
              go_roundw
              case rel => exact ⟨k + 1, by omega, by go_num, ⟨A3, c3, rfl⟩, hown3, hR3, hb3⟩
              case measure => simp [intOf]; omega
            · have hend : Hid (k = m - 125) := by show _ = _; omega
              by_cases hov : 65536 < acc.length + k
              · have hfin : Hid ((out, code) = ([], errLong)) := by
                  show _ = _
                  rw [HC.out, hstep.out]
                  simp only
                  rw [if_pos (by rw [List.length_replicate, HN.out, ← hend.out]; exact hov)]
                clear hc
                go_wp2_with fail
                go_ret2
                rw [hfin.out, errLong_eq]
                exact refLong_err w _ 4 hb
              · have hfin : Hid (longR (l.drop (i + 2)) (acc ++ List.replicate k z) = (out, code)) := by
                  show _ = _
                  rw [HC.out, hstep.out]
                  simp only
                  rw [if_neg (by rw [List.length_replicate, HN.out, ← hend.out]; exact hov), List.drop_drop, HN.out, HZ0.out, ← hend.out]
                clear hc
                go_wp2_with fail
                go_roundw
                case rel =>
                  refine ⟨i + 2, _, by omega, by go_num, ?_, hown, hfin.out, hR, hb⟩
                  rw [List.length_append, List.length_replicate]; omega
                case measure => simp [intOf]; omega
    · obtain rfl : i = n := by omega
      have hfin : Hid ((out, code) = (acc, 0)) := by
        show _ = _
        rw [← hinv.out, List.drop_of_length_le (by rw [HL.out]; exact Nat.le_refl _), longR_nil]
      go_wp2_with fail
      go_ret2
      rw [hfin.out]
      exact ⟨u4, rfl, hown, hb⟩
end Go.Proofs.Ytdljlpialbebeaa
