/-
  WALKS of the statements of layer 18.
-/
import Derived.Test.YtboepibmnfmgfaaDoorRopL
namespace Go.Proofs.YtboepibmnfmgfaaDoor
open Go.RowKit

def Law (w : World) (e : Ending) (w' : World) : Prop := e = .returned (.bool true) ∧ Below w.heap.size w w'

set_option maxHeartbeats 600000 in
theorem mixes_walk (n s d p : Int) (x y : Bool) (w : World) (hs : 0 ≤ s ∧ s ≤ 255) (hd : 0 ≤ d ∧ d ≤ 255) (hp : 0 ≤ p ∧ p ≤ 255) (hN : NamesIn w) :
    Calls Tryd.prog 8 #[.int .i64 n, .int .u8 s, .int .u8 d, .int .u8 p, .bool x, .bool y] w (Law w) := by
  have HN := Lib.hid hN; clear hN
  go_enter Tryd.func8, Tryd.ntmps8
  go_wp2_with fail
  refine (awake_any _ HN.out).mono ?_
  rintro e w1 ⟨rfl, h1⟩
  go_wp2_with fail
  refine (mix_any _ _ _ _ _ hs hd hp).mono ?_
  rintro e w2 ⟨rfl, h2⟩
  go_wp2_with fail
  refine (refMix_any _ _ _ _ _ hs hd hp).mono ?_
  rintro e w3 ⟨rfl, rfl⟩
  go_wp2_with fail
  refine (rop_bit_any _ _ _ _).mono ?_
  rintro e w4 ⟨rfl, h4⟩
  go_wp2_with fail
  refine (refBit_any _ _ _ _).mono ?_
  rintro e w5 ⟨rfl, rfl⟩
  go_wp2_with fail
  go_ret
  exact ⟨rfl, below_next (below_next h1 h2) h4⟩

set_option maxHeartbeats 600000 in
theorem planes_walk (n s d p : Int) (w : World) (hs : 0 ≤ s ∧ s ≤ 255) (hd : 0 ≤ d ∧ d ≤ 255) (hp : 0 ≤ p ∧ p ≤ 255) (hN : NamesIn w) :
    Calls Tryd.prog 5 #[.int .i64 n, .int .u8 s, .int .u8 d, .int .u8 p] w (Law w) := by
  have HN := Lib.hid hN; clear hN
  have hm := mixI_bd n s d p
  have o1 := planes_out n s d p hd hp
  have o2 := planes_in n s d p hp
  have o3 := planes_rest n s d p hp
  have o4 := planes_none n s d hd
  generalize hM : mixI n s d p = M at hm o1 o2 o3
  generalize hA : mixI n s d 255 = A at o2 o3
  have t1 : (bits .andNot .u8 M p != bits .andNot .u8 d p) = false := by rw [o1]; simp
  have t2 : (bits .and .u8 M p == bits .and .u8 A p) = true := by rw [o2]; simp
  have O3 := Lib.hid o3; have O4 := Lib.hid o4; have HM := Lib.hid hM; have HA := Lib.hid hA
  clear o1 o2 o3 o4 hM hA
  go_enter Tryd.func5, Tryd.ntmps5
  go_wp2_with fail
  refine (awake_any _ HN.out).mono ?_
  rintro e w1 ⟨rfl, h1⟩
  go_wp2_with fail
  refine (mix_at _ M HM.out hs hd hp).mono ?_
  rintro e w2 ⟨rfl, h2⟩
  go_wp2_with fail
  refine (mix_at _ d O4.out hs hd (by omega)).mono ?_
  rintro e w3 ⟨rfl, h3⟩
  go_wp2_with fail
  refine (mix_at _ A HA.out hs hd (by omega)).mono ?_
  rintro e w4 ⟨rfl, h4⟩
  have hsg : IntKind.u8.signed = false := rfl
  go_wp2_with fail
  rw [comp_u8 p hp]
  refine (mix_at _ A O3.out hs hm (by omega)).mono ?_
  rintro e w5 ⟨rfl, h5⟩
  go_wp2_with fail
  go_ret
  exact ⟨rfl, below_next (below_next (below_next (below_next h1 h2) h3) h4) h5⟩

set_option maxHeartbeats 600000 in
theorem groups_walk (a b c : Int) (w : World) (hN : NamesIn w) :
    Calls Tryd.prog 7 #[.int .i64 a, .int .i64 b, .int .i64 c] w (Law w) := by
  have HN := Lib.hid hN; clear hN
  rcases ha : ropKnown a with _ | _
  · skip
    go_enter Tryd.func7, Tryd.ntmps7
    go_wp2_with fail
    refine (awake_any _ HN.out).mono ?_
    rintro e w1 ⟨rfl, h1⟩
    go_wp2_with (go_at_call 14; refine (refIs_any _ _).mono ?_; rintro e w' ⟨rfl, rfl⟩)
    go_ret
    exact ⟨rfl, h1⟩
  rcases hb : ropKnown b with _ | _
  · skip
    go_enter Tryd.func7, Tryd.ntmps7
    go_wp2_with fail
    refine (awake_any _ HN.out).mono ?_
    rintro e w1 ⟨rfl, h1⟩
    go_wp2_with (go_at_call 14; refine (refIs_any _ _).mono ?_; rintro e w' ⟨rfl, rfl⟩)
    go_ret
    exact ⟨rfl, h1⟩
  rcases hc : ropKnown c with _ | _
  · skip
    go_enter Tryd.func7, Tryd.ntmps7
    go_wp2_with fail
    refine (awake_any _ HN.out).mono ?_
    rintro e w1 ⟨rfl, h1⟩
    go_wp2_with (go_at_call 14; refine (refIs_any _ _).mono ?_; rintro e w' ⟨rfl, rfl⟩)
    go_ret
    exact ⟨rfl, h1⟩
  have hab := then_known ha hb
  have hbc := then_known hb hc
  have hass := then_assoc ha hb hc
  obtain ⟨u1, u2, u3⟩ := then_unit ha
  generalize hX : then2 a b = X at hab hass
  generalize hY : then2 b c = Y at hbc hass
  have HX := Lib.hid hX; have HY := Lib.hid hY; have AS := Lib.hid hass; have U1 := Lib.hid u1; have U2 := Lib.hid u2; have U3 := Lib.hid u3
  clear hX hY hass u1 u2 u3
  go_enter Tryd.func7, Tryd.ntmps7
  go_wp2_with fail
  refine (awake_any _ HN.out).mono ?_
  rintro e w1 ⟨rfl, h1⟩
  go_wp2_with (first | (go_at_call 14; refine (refIs_any _ _).mono ?_; rintro e w' ⟨rfl, rfl⟩) | (go_at_call 11; fail))
  refine (then_at _ X HX.out ha hb).mono ?_
  rintro e w2 ⟨rfl, h2⟩
  go_wp2_with fail
  refine (then_at _ Y HY.out hb hc).mono ?_
  rintro e w3 ⟨rfl, h3⟩
  go_wp2_with fail
  refine (then_at _ (then2 a Y) AS.out hab hc).mono ?_
  rintro e w4 ⟨rfl, h4⟩
  go_wp2_with fail
  refine (then_at _ _ rfl ha hbc).mono ?_
  rintro e w5 ⟨rfl, h5⟩
  go_wp2_with fail
  refine (then_at _ a U1.out rfl ha).mono ?_
  rintro e w6 ⟨rfl, h6⟩
  go_wp2_with fail
  refine (then_at _ a U2.out ha rfl).mono ?_
  rintro e w7 ⟨rfl, h7⟩
  go_wp2_with fail
  refine (then_at _ 3 U3.out ha rfl).mono ?_
  rintro e w8 ⟨rfl, h8⟩
  go_wp2_with fail
  go_ret
  exact ⟨rfl, below_next (below_next (below_next (below_next (below_next (below_next (below_next h1 h2) h3) h4) h5) h6) h7) h8⟩

set_option maxHeartbeats 600000 in
theorem turns_walk (n s d : Int) (w : World) (hs : 0 ≤ s ∧ s ≤ 255) (hd : 0 ≤ d ∧ d ≤ 255) (hN : NamesIn w) :
    Calls Tryd.prog 6 #[.int .i64 n, .int .u8 s, .int .u8 d] w (Law w) := by
  have HN := Lib.hid hN; clear hN
  rcases ha : ropKnown n with _ | _
  · have hm := Lib.hid (mixI_unknown n s d 255 ha hd)
    have HA := Lib.hid ha
    have hn : n < 0 ∨ 15 < n := by simp [ropKnown] at ha; omega
    clear ha
    rcases hn with hn | hn
    · skip
      go_enter Tryd.func6, Tryd.ntmps6
      go_wp2_with fail
      refine (awake_any _ HN.out).mono ?_
      rintro e w1 ⟨rfl, h1⟩
      go_wp2_with fail
      refine (rop_then_no _ _ _ (Or.inl HA.out)).mono ?_
      rintro e w2 ⟨rfl, rfl⟩
      go_wp2_with fail
      refine (mix_at _ d hm.out hs hd (by omega)).mono ?_
      rintro e w3 ⟨rfl, h3⟩
      go_wp2_with fail
      go_ret
      exact ⟨rfl, below_next h1 h3⟩
    · have hn0 : ¬ n < 0 := by omega
      go_enter Tryd.func6, Tryd.ntmps6
      go_wp2_with fail
      refine (awake_any _ HN.out).mono ?_
      rintro e w1 ⟨rfl, h1⟩
      go_wp2_with fail
      refine (rop_then_no _ _ _ (Or.inl HA.out)).mono ?_
      rintro e w2 ⟨rfl, rfl⟩
      go_wp2_with fail
      refine (mix_at _ d hm.out hs hd (by omega)).mono ?_
      rintro e w3 ⟨rfl, h3⟩
      go_wp2_with fail
      go_ret
      exact ⟨rfl, below_next h1 h3⟩
  · have hn : 0 ≤ n ∧ n ≤ 15 := by simpa [ropKnown] using ha
    have o1 := Lib.hid (turns_then ha)
    have o2 := Lib.hid (turns_then (turns_known ha))
    have o3 := Lib.hid (turns_mix ha s d)
    have HA := Lib.hid ha
    clear ha
    obtain ⟨hn0, hn1⟩ := hn
    go_enter Tryd.func6, Tryd.ntmps6
    go_wp2_with fail
    refine (awake_any _ HN.out).mono ?_
    rintro e w1 ⟨rfl, h1⟩
    go_wp2_with fail
    refine (then_at _ (15 - n) o1.out HA.out rfl).mono ?_
    rintro e w2 ⟨rfl, h2⟩
    go_wp2_with fail
    refine (then_at _ n (by rw [o2.out]; omega) (turns_known HA.out) rfl).mono ?_
    rintro e w3 ⟨rfl, h3⟩
    have hb1 := mixI_bd n s d 255
    generalize hM : mixI n s d 255 = M at hb1
    have HM := Lib.hid hM; clear hM
    go_wp2_with fail
    refine (mix_at _ (255 - M) (by rw [o3.out, HM.out]) hs hd (by omega)).mono ?_
    rintro e w4 ⟨rfl, h4⟩
    go_wp2_with fail
    refine (mix_at _ M HM.out hs hd (by omega)).mono ?_
    rintro e w5 ⟨rfl, h5⟩
    have hsg : IntKind.u8.signed = false := rfl
    have hcm := comp_u8 M hb1
    go_wp2_with fail
    go_ret
    exact ⟨rfl, below_next (below_next (below_next (below_next h1 h2) h3) h4) h5⟩

end Go.Proofs.YtboepibmnfmgfaaDoor
