/-
  WALK of layer 25's reference: Short; a slice of bytes of the call's own.
-/
import Derived.Test.YtdljlpialbebeaaImgR
namespace Go.Proofs.Ytdljlpialbebeaa
open Go.RowKit

theorem info8 : (Try.prog.info? 5).map (fun i => (i.zero, i.size, i.bytes)) = some (some (.int .u8 0), 1, 1) := by kernel_rfl

/-- a slice of bytes of the call's own (from block B on) -/
def Own8 (w : World) (B : Nat) (v : Value) (acc : List UInt8) : Prop := w.ownsRow B 5 1 v acc.length (Lib.byteCells acc)
theorem Own8.nil (w : World) (B : Nat) : Own8 w B (.slice none 0 0) [] := World.ownsRow_nil w B _ _
theorem Own8.next {w w' : World} {B : Nat} {v : Value} {acc : List UInt8} (h : Own8 w B v acc) (hb : Below w.heap.size w w') : Own8 w' B v acc := by
  refine World.ownsRow.kept (row := none) h ⟨hb.os, hb.tape, hb.output, hb.size, fun i hi _ => hb.block i hi⟩ ?_
  cases v.ownBlock <;> simp
theorem Own8.alloc {w : World} {B : Nat} {v : Value} {acc : List UInt8} (h : Own8 w B v acc) (o : Obj) : Own8 (w.alloc o) B v acc := World.ownsRow.alloc h o
theorem Own8.form {w : World} {B : Nat} {v : Value} {acc : List UInt8} (h : Own8 w B v acc) : ∃ a c, v = .slice a acc.length c ∧ acc.length ≤ maxLen := by
  rcases h.2 with ⟨hv, h0⟩ | ⟨g, cap, cur, hv, _, _, h1, h2, _⟩
  · exact ⟨none, 0, by rw [h0]; exact hv, by rw [h0]; exact Nat.zero_le _⟩
  · exact ⟨_, cap, hv, by omega⟩

theorem app8 {ops : Array Oper} {rest : List Oper} {o : Oper} {a : Act} {Q : Exit → Act → World → Prop} (w : World) (hgd : o.guard = none) (s x : Operand)
    (ho : o.op = .call { callee := .builtin .append, args := #[s, x], argTypes := #[28, 28] })
    (B : Nat) (v : Value) (acc : List UInt8) (hs : a.eval s = v) (hown : Own8 w B v acc)
    (ad : Addr) (m c : Nat) (news : List UInt8) (hx : a.eval x = .slice (some ad) m c) (hl : news.length = m)
    (hnews : ∀ j, j < news.length → w.cell? (ad.add j) = some (.int .u8 (byteL news j))) (hlen : acc.length + m ≤ 140737488355328) (hB : B ≤ w.heap.size)
    (h : ∀ v' w', Own8 w' B v' (acc ++ news) → Below B w w' → wpList Try.prog ops Q rest (a.put o.dst v') w') : wpList Try.prog ops Q (o :: rest) a w := by
  obtain ⟨i0, hi, hz0, hz1, hz2⟩ := info_parts info8
  refine wpList_append_own w hgd s x 28 ho B 5 i0 (.int .u8 0) 1 1 Try.underlying28 hi hz0 hz1 hz2 rfl (by decide) v acc.length (Lib.byteCells acc) hs hown ad m c (Lib.byteCells news) hx (by rw [Lib.byteCells_length, hl, Nat.mul_one]) ?_ ?_ ?_ ?_ hB ?_
  · intro j u hj
    have hj' : j < news.length := by have := (List.getElem?_eq_some_iff.1 hj).1; rwa [Lib.byteCells_length] at this
    rw [hnews j hj']
    unfold Lib.byteCells at hj
    rw [List.getElem?_map, List.getElem?_eq_getElem hj'] at hj
    rw [← hj, byteL, List.getD_eq_getElem?_getD, List.getElem?_eq_getElem hj']
    rfl
  · intro u hu
    unfold Lib.byteCells at hu
    obtain ⟨y, _, rfl⟩ := List.mem_map.1 hu
    rfl
  · unfold maxLen; omega
  · omega
  · intro v' w' hown' hgrow _
    refine h v' w' ?_ ?_
    · unfold Own8
      rw [List.length_append, hl, Lib.byteCells_append]
      exact hown'
    · exact (Below.refl B w).grown hgrow hB (fun k hk => (World.ownsRow.lt hown k hk).1)

theorem run_small (l : List UInt8) (h : 1 ≤ l.length) : (runL l < 3 ↔ alikeL l < 3) ∧ (3 ≤ runL l ↔ 3 ≤ alikeL l) := by
  rw [runL_eq l h]; omega

theorem alike_at (b n cap : Nat) (x : Int) (i : Nat) (hx : x = i) (r : Nat) (l : List UInt8) (hr : alikeL (l.drop i) = r) (w : World) (hl : l.length = n) (hn : n ≤ 131072) (hat : i < n) (hrow : Row8 w b l) :
    Calls Try.prog 18 #[.slice (some ⟨b, 0, none⟩) n cap, .int .i64 x] w fun e w' => e = .returned (.int .i64 r) ∧ Below w.heap.size w w' := by
  subst hx; subst hr; exact alike_any b n cap i l w hl hn hat hrow

def RefShortPost (w : World) (l : List UInt8) (e : Ending) (w' : World) : Prop := ∃ v, e = .returned v ∧ Own8 w' w.heap.size v (short l) ∧ Below w.heap.size w w'

set_option maxRecDepth 100000 in
set_option maxHeartbeats 1000000 in
theorem refShort_walk (b n cap : Nat) (l : List UInt8) (w : World) (hl : l.length = n) (hn : n ≤ 65536) (hcap : n ≤ cap) (hrow : Row8 w b l) :
    Calls Try.prog 11 #[.slice (some ⟨b, 0, none⟩) n cap] w (RefShortPost w l) := by
  have hbw : b < w.heap.size := hrow.1
  have HL := Lib.hid hl; clear hl
  have HROW := Lib.hid hrow; clear hrow
  go_enter Try.func11, Try.ntmps11
  go_wp2_with fail
  go_loopw [3, 4, 5, 6] (fun v iv _ _ wr => ∃ (i : Nat) (acc : List UInt8), i ≤ n ∧ iv = .int .i64 i ∧ Own8 wr w.heap.size v acc ∧ Hid (acc ++ short (l.drop i) = short l) ∧ Hid (Row8 wr b l) ∧ Below w.heap.size w wr) (fun _ iv _ _ _ => n - (intOf iv).toNat)
  case atStart => exact ⟨0, [], Nat.zero_le _, rfl, Own8.nil _ _, rfl, HROW, Below.refl _ _⟩
  case round =>
    obtain ⟨i, acc, hi, rfl, hown, hinv, hR, hb⟩ := hrel
    have hal := acc_len hinv.out (by rw [HL.out]; exact hn)
    by_cases hlt : i < n
    · have hlen : 1 ≤ (l.drop i).length := by rw [List.length_drop, HL.out]; omega
      have hr1 := runL_bd (l.drop i)
      have hr2 := runL_len (l.drop i) hlen
      have hr3 := runL_eq (l.drop i) hlen
      have hr4 := alikeL_len (l.drop i)
      rw [List.length_drop, HL.out] at hr2 hr4
      generalize hr : runL (l.drop i) = r at hr1 hr2 hr3
      generalize hq : alikeL (l.drop i) = q at hr3 hr4
      have HR := Lib.hid hr; have HQ := Lib.hid hq; have HQR := Lib.hid hr3; clear hr hq
      obtain ⟨hr0, hr130⟩ := hr1
      go_wp2_with fail
      refine (alike_at b n cap _ i rfl q l HQ.out _ HL.out (by omega) hlt hR.out).mono ?_
      rintro e w1 ⟨rfl, h1⟩
      have hown1 := hown.next h1
      have hb1 := below_next hb h1
      have hR1 : Hid (Row8 w1 b l) := hR.out.next h1
      have hc := hR1.out.2 i (by rw [HL.out]; exact hlt)
      clear hown hb h1 hR
      by_cases h3 : 3 ≤ r
      · have hsh := Lib.hid (short_run (l.drop i) hlen (by rw [HR.out]; exact h3))
        have hq3 : 3 ≤ q := by omega
        have hq3' : decide ((3 : Int) ≤ (q : Int)) = true := by simp; omega
        clear hr3
        by_cases hbig : 130 < q
        · have hr5 : Hid (r = 130) := by have := HQR.out; show _ = _; omega
          go_wp2_with (at_builtin; refine app8 _ rfl (.tmp 18) (.tmp 26) rfl w.heap.size _ acc rfl (hown1.alloc _) ⟨w1.heap.size, 0, none⟩ 2 2 [UInt8.ofNat (125 + r), l.getD i 0] rfl rfl ?c1x1 ?c2x1 ?c3x1 ?_)
          case c1x1 =>
            intro j hj
            have e1 : byteL [UInt8.ofNat (125 + r), l.getD i 0] 0 = ((125 + r : Nat) : Int) := by
              show ((UInt8.ofNat (125 + r)).toNat : Int) = _
              rw [UInt8.toNat_ofNat']; omega
            have e2 : byteL [UInt8.ofNat (125 + r), l.getD i 0] 1 = byteL l i := rfl
            match j, hj with
            | 0, _ => rw [e1]; simp [Addr.add, hr5.out]; try omega
            | 1, _ => rw [e2]; simp [Addr.add]
          case c2x1 => omega
          case c3x1 => have := hb1.size; simp; omega
          intro v' w2 hown2 h2
          have hb2 : Below w.heap.size w w2 := (hb1.alloc hb1.size _).trans h2
          have hR2 : Hid (Row8 w2 b l) := by
            have h : Row8 (w1.alloc _) b l := hR1.out.next ((Below.refl _ _).alloc (Nat.le_refl _) (.cells #[.int .u8 (130 + 125), .int .u8 (byteL l i)] 5))
            exact h.below h2 hbw
          clear hown1 hb1 h2 hR1 hc
          go_wp2_with fail
          go_roundw
          case rel =>
            refine ⟨i + r, _, by omega, by have := hr5.out; go_num, hown2, ?_, hR2.out, hb2⟩
            show _ = _
            rw [← hinv.out, hsh.out, HR.out]
            simp [List.drop_drop, List.getD]
          case measure => have := hr5.out; simp [intOf]; omega
        · have hr5 : Hid (r = q) := by have := HQR.out; show _ = _; omega
          go_wp2_with (at_builtin; refine app8 _ rfl (.tmp 18) (.tmp 26) rfl w.heap.size _ acc rfl (hown1.alloc _) ⟨w1.heap.size, 0, none⟩ 2 2 [UInt8.ofNat (125 + r), l.getD i 0] rfl rfl ?c1x2 ?c2x2 ?c3x2 ?_)
          case c1x2 =>
            intro j hj
            have e1 : byteL [UInt8.ofNat (125 + r), l.getD i 0] 0 = ((125 + r : Nat) : Int) := by
              show ((UInt8.ofNat (125 + r)).toNat : Int) = _
              rw [UInt8.toNat_ofNat']; omega
            have e2 : byteL [UInt8.ofNat (125 + r), l.getD i 0] 1 = byteL l i := rfl
            match j, hj with
            | 0, _ => rw [e1]; simp [Addr.add, hr5.out]; try omega
            | 1, _ => rw [e2]; simp [Addr.add]
          case c2x2 => omega
          case c3x2 => have := hb1.size; simp; omega
          intro v' w2 hown2 h2
          have hb2 : Below w.heap.size w w2 := (hb1.alloc hb1.size _).trans h2
          have hR2 : Hid (Row8 w2 b l) := by
            have h : Row8 (w1.alloc _) b l := hR1.out.next ((Below.refl _ _).alloc (Nat.le_refl _) (.cells #[.int .u8 (↑q + 125), .int .u8 (byteL l i)] 5))
            exact h.below h2 hbw
          clear hown1 hb1 h2 hR1 hc
          go_wp2_with fail
          go_roundw
          case rel =>
            refine ⟨i + r, _, by omega, by have := hr5.out; go_num, hown2, ?_, hR2.out, hb2⟩
            show _ = _
            rw [← hinv.out, hsh.out, HR.out]
            simp [List.drop_drop, List.getD]
          case measure => have := hr5.out; simp [intOf]; omega
      · have hsh := Lib.hid (short_plain (l.drop i) hlen (by rw [HR.out]; exact h3))
        have hq3 : ¬ 3 ≤ q := by omega
        have hq3' : decide ((3 : Int) ≤ (q : Int)) = false := by simp; omega
        have hp := plainL_bd (l.drop i) hlen
        have hdl : Hid ((l.drop i).length = n - i) := by show _ = _; rw [List.length_drop, HL.out]
        rw [hdl.out] at hp
        generalize hpl : plainL (l.drop i) = p at hp hsh
        have HP := Lib.hid hpl; clear hpl hr3
        obtain ⟨hp1, hp128, hpl⟩ := hp
        go_wp2_with fail
        obtain ⟨wo, rfl⟩ : ∃ wo : World, wo = w1 := ⟨_, rfl⟩
        go_loopw [6] (fun kv wz => ∃ (k : Nat), 1 ≤ k ∧ k ≤ 128 ∧ i + k ≤ n ∧ kv = .int .i64 k ∧ Hid (plainGo (l.drop i) (129 - k) k = p) ∧ Own8 wz w.heap.size u3 acc ∧ Hid (Row8 wz b l) ∧ Below w.heap.size w wz) (fun kv _ => 128 - (intOf kv).toNat)
        case atStart => exact ⟨1, by omega, by omega, by omega, by go_num, HP.out, hown1, hR1, hb1⟩
        case round =>
          clear hown1 hb1 hR1 hc
          obtain ⟨wz, rfl⟩ : ∃ wz : World, wz = wr := ⟨_, rfl⟩
          obtain ⟨k, hk1, hk2, hk3, rfl, hgo, hown1, hR1, hb1⟩ := hrel
          have hdd : Hid ((l.drop i).drop k = l.drop (i + k)) := by show _ = _; rw [List.drop_drop]
          by_cases hk5 : k < 128
          · by_cases hk4 : i + k < n
            · have hsm := run_small (l.drop (i + k)) (by rw [List.length_drop, HL.out]; omega)
              generalize hq' : alikeL (l.drop (i + k)) = q' at hsm
              have HQ' := Lib.hid hq'; have HSM := Lib.hid hsm; clear hq' hsm
              go_wp2_with fail
              refine (alike_at b n cap _ (i + k) (by omega) q' l HQ'.out _ HL.out (by omega) hk4 hR1.out).mono ?_
              rintro e w2 ⟨rfl, h2⟩
              have hown2 := hown1.next h2
              have hb2 := below_next hb1 h2
              have hR2 : Hid (Row8 w2 b l) := hR1.out.next h2
              clear hown1 hb1 h2 hR1
              by_cases hq : q' < 3
              · go_wp2_with fail
                go_roundw
                case rel =>
                  refine ⟨k + 1, by omega, by omega, by omega, by go_num, ?_, hown2, hR2, hb2⟩
                  show _ = _
                  rw [← hgo.out]
                  exact (plainGo_yes (by rw [hdl.out]; omega) hk5 (by rw [hdd.out]; exact HSM.out.1.2 hq)).symm
                case measure => simp [intOf]; omega
              · have hend : Hid (k = p) := by
                  show _ = _
                  rw [← hgo.out]
                  exact (plainGo_no hk2 (fun h => hq (HSM.out.1.1 (by have := h.2.2; rw [hdd.out] at this; exact this)))).symm
                obtain ⟨wz, rfl⟩ : ∃ wz : World, wz = w2 := ⟨_, rfl⟩
                go_wp2_with (first | (at_builtin; refine app8 _ rfl (.tmp 51) (.tmp 55) rfl w.heap.size _ acc rfl (hown2.alloc _) ⟨wz.heap.size, 0, none⟩ 1 1 [UInt8.ofNat (p - 1)] rfl rfl ?c1x3 ?c2x3 ?c3x3 ?_))
                case c1x3 =>
                  have e1 : byteL [UInt8.ofNat (p - 1)] 0 = ((p - 1 : Nat) : Int) := by
                    show ((UInt8.ofNat (p - 1)).toNat : Int) = _
                    rw [UInt8.toNat_ofNat']; omega
                  have := hend.out
                  first
                    | (rw [e1]; omega)
                    | (intro j hj
                       match j, hj with
                       | 0, _ => rw [e1]; simp [Addr.add]; omega)
                case c2x3 => omega
                case c3x3 => have := hb2.size; simp; omega
                intro v3 w3 hown3 h3z
                have hb3 : Below w.heap.size w w3 := (hb2.alloc hb2.size _).trans h3z
                have hR3 : Hid (Row8 w3 b l) := by
                  have h : Row8 (wz.alloc _) b l := hR2.out.next ((Below.refl _ _).alloc (Nat.le_refl _) (.cells #[.int .u8 ((k : Int) - 1)] 5))
                  exact h.below h3z hbw
                clear hown2 hb2 h3z hR2
                have hsl := fun W => Lib.run_slice_window (P := Try.prog) W 28 5 Try.underlying28 Try.sizeOf5 b 0 n cap i (i + k) (by omega) (by omega)
                simp only [Nat.zero_add, Nat.add_sub_cancel_left, show ((i + k : Nat) : Int) = (i : Int) + (k : Int) by omega] at hsl
                go_wp2_with (at_builtin; refine app8 _ rfl (.tmp 57) (.tmp 63) rfl w.heap.size _ (acc ++ [UInt8.ofNat (p - 1)]) rfl hown3 ⟨b, i, none⟩ k (cap - i) ((l.drop i).take p) rfl ?d1x4 ?d2x4 ?d3x4 ?d4x4 ?_)
                case d1x4 => have := hend.out; rw [List.length_take, hdl.out]; omega
                case d2x4 =>
                  intro j hj
                  have hj' : j < p := by rw [List.length_take] at hj; omega
                  have e : byteL ((l.drop i).take p) j = byteL l (i + j) := by
                    unfold byteL
                    simp [List.getD, hj', List.getElem?_drop]
                  rw [e]
                  have := hR3.out.2 (i + j) (by have := hend.out; rw [HL.out]; omega)
                  rw [← this]
                  by_cases h0 : j = 0
                  · subst h0; simp [Addr.add]
                  · simp [Addr.add, h0]
                case d3x4 => have := hend.out; rw [List.length_append, List.length_singleton]; omega
                case d4x4 => exact hb3.size
                intro v4 w4 hown4 h4
                have hb4 : Below w.heap.size w w4 := hb3.trans h4
                have hR4 : Hid (Row8 w4 b l) := hR3.out.below h4 hbw
                clear hown3 hb3 h4 hR3 hsl
                go_wp2_with fail
                go_roundw
                case rel =>
                  refine ⟨i + k, _, by omega, by go_num, hown4, ?_, hR4.out, hb4⟩
                  show _ = _
                  rw [← hinv.out, hsh.out, ← hend.out]
                  simp [List.drop_drop]
                case measure => simp [intOf]; omega
            · have hend : Hid (k = p) := by
                show _ = _
                rw [← hgo.out]
                exact (plainGo_no hk2 (fun h => hk4 (by have := h.1; rw [hdl.out] at this; omega))).symm
              go_wp2_with (first | (at_builtin; refine app8 _ rfl (.tmp 51) (.tmp 55) rfl w.heap.size _ acc rfl (hown1.alloc _) ⟨wz.heap.size, 0, none⟩ 1 1 [UInt8.ofNat (p - 1)] rfl rfl ?c1x5 ?c2x5 ?c3x5 ?_))
              case c1x5 =>
                have e1 : byteL [UInt8.ofNat (p - 1)] 0 = ((p - 1 : Nat) : Int) := by
                  show ((UInt8.ofNat (p - 1)).toNat : Int) = _
                  rw [UInt8.toNat_ofNat']; omega
                have := hend.out
                first
                  | (rw [e1]; omega)
                  | (intro j hj
                     match j, hj with
                     | 0, _ => rw [e1]; simp [Addr.add]; omega)
              case c2x5 => omega
              case c3x5 => have := hb1.size; simp; omega
              intro v3 w3 hown3 h3z
              have hb3 : Below w.heap.size w w3 := (hb1.alloc hb1.size _).trans h3z
              have hR3 : Hid (Row8 w3 b l) := by
                have h : Row8 (wz.alloc _) b l := hR1.out.next ((Below.refl _ _).alloc (Nat.le_refl _) (.cells #[.int .u8 ((k : Int) - 1)] 5))
                exact h.below h3z hbw
              clear hown1 hb1 h3z hR1
              have hsl := fun W => Lib.run_slice_window (P := Try.prog) W 28 5 Try.underlying28 Try.sizeOf5 b 0 n cap i (i + k) (by omega) (by omega)
              simp only [Nat.zero_add, Nat.add_sub_cancel_left, show ((i + k : Nat) : Int) = (i : Int) + (k : Int) by omega] at hsl
              go_wp2_with (at_builtin; refine app8 _ rfl (.tmp 57) (.tmp 63) rfl w.heap.size _ (acc ++ [UInt8.ofNat (p - 1)]) rfl hown3 ⟨b, i, none⟩ k (cap - i) ((l.drop i).take p) rfl ?d1x6 ?d2x6 ?d3x6 ?d4x6 ?_)
              case d1x6 => have := hend.out; rw [List.length_take, hdl.out]; omega
              case d2x6 =>
                intro j hj
                have hj' : j < p := by rw [List.length_take] at hj; omega
                have e : byteL ((l.drop i).take p) j = byteL l (i + j) := by
                  unfold byteL
                  simp [List.getD, hj', List.getElem?_drop]
                rw [e]
                have := hR3.out.2 (i + j) (by have := hend.out; rw [HL.out]; omega)
                rw [← this]
                by_cases h0 : j = 0
                · subst h0; simp [Addr.add]
                · simp [Addr.add, h0]
              case d3x6 => have := hend.out; rw [List.length_append, List.length_singleton]; omega
              case d4x6 => exact hb3.size
              intro v4 w4 hown4 h4
              have hb4 : Below w.heap.size w w4 := hb3.trans h4
              have hR4 : Hid (Row8 w4 b l) := hR3.out.below h4 hbw
              clear hown3 hb3 h4 hR3 hsl
              go_wp2_with fail
              go_roundw
              case rel =>
                refine ⟨i + k, _, by omega, by go_num, hown4, ?_, hR4.out, hb4⟩
                show _ = _
                rw [← hinv.out, hsh.out, ← hend.out]
                simp [List.drop_drop]
              case measure => simp [intOf]; omega
          · have hend : Hid (k = p) := by
              show _ = _
              rw [← hgo.out]
              exact (plainGo_no hk2 (fun h => hk5 h.2.1)).symm
            go_wp2_with (first | (at_builtin; refine app8 _ rfl (.tmp 51) (.tmp 55) rfl w.heap.size _ acc rfl (hown1.alloc _) ⟨wz.heap.size, 0, none⟩ 1 1 [UInt8.ofNat (p - 1)] rfl rfl ?c1x7 ?c2x7 ?c3x7 ?_))
            case c1x7 =>
              have e1 : byteL [UInt8.ofNat (p - 1)] 0 = ((p - 1 : Nat) : Int) := by
                show ((UInt8.ofNat (p - 1)).toNat : Int) = _
                rw [UInt8.toNat_ofNat']; omega
              have := hend.out
              first
                | (rw [e1]; omega)
                | (intro j hj
                   match j, hj with
                   | 0, _ => rw [e1]; simp [Addr.add]; omega)
            case c2x7 => omega
            case c3x7 => have := hb1.size; simp; omega
            intro v3 w3 hown3 h3z
            have hb3 : Below w.heap.size w w3 := (hb1.alloc hb1.size _).trans h3z
            have hR3 : Hid (Row8 w3 b l) := by
              have h : Row8 (wz.alloc _) b l := hR1.out.next ((Below.refl _ _).alloc (Nat.le_refl _) (.cells #[.int .u8 ((k : Int) - 1)] 5))
              exact h.below h3z hbw
            clear hown1 hb1 h3z hR1
            have hsl := fun W => Lib.run_slice_window (P := Try.prog) W 28 5 Try.underlying28 Try.sizeOf5 b 0 n cap i (i + k) (by omega) (by omega)
            simp only [Nat.zero_add, Nat.add_sub_cancel_left, show ((i + k : Nat) : Int) = (i : Int) + (k : Int) by omega] at hsl
            go_wp2_with (at_builtin; refine app8 _ rfl (.tmp 57) (.tmp 63) rfl w.heap.size _ (acc ++ [UInt8.ofNat (p - 1)]) rfl hown3 ⟨b, i, none⟩ k (cap - i) ((l.drop i).take p) rfl ?d1x8 ?d2x8 ?d3x8 ?d4x8 ?_)
            case d1x8 => have := hend.out; rw [List.length_take, hdl.out]; omega
            case d2x8 =>
              intro j hj
              have hj' : j < p := by rw [List.length_take] at hj; omega
              have e : byteL ((l.drop i).take p) j = byteL l (i + j) := by
                unfold byteL
                simp [List.getD, hj', List.getElem?_drop]
              rw [e]
              have := hR3.out.2 (i + j) (by have := hend.out; rw [HL.out]; omega)
              rw [← this]
              by_cases h0 : j = 0
              · subst h0; simp [Addr.add]
              · simp [Addr.add, h0]
            case d3x8 => have := hend.out; rw [List.length_append, List.length_singleton]; omega
            case d4x8 => exact hb3.size
            intro v4 w4 hown4 h4
            have hb4 : Below w.heap.size w w4 := hb3.trans h4
            have hR4 : Hid (Row8 w4 b l) := hR3.out.below h4 hbw
            clear hown3 hb3 h4 hR3 hsl
            go_wp2_with fail
            go_roundw
            case rel =>
              refine ⟨i + k, _, by omega, by go_num, hown4, ?_, hR4.out, hb4⟩
              show _ = _
              rw [← hinv.out, hsh.out, ← hend.out]
              simp [List.drop_drop]
            case measure => simp [intOf]; omega
    · obtain rfl : i = n := by omega
      have hfin : Hid (acc = short l) := by
        show _ = _
        rw [← hinv.out, List.drop_of_length_le (by rw [HL.out]; exact Nat.le_refl _), short_nil, List.append_nil]
      go_wp2_with fail
      go_ret
      exact ⟨u3, rfl, by rw [← hfin.out]; exact hown, hb⟩
end Go.Proofs.Ytdljlpialbebeaa
