/-
  OPENING the laws' arguments: a size (three bytes), a slice of bytes, a slice of strings. No program in it.
-/
import Derived.Test.YtiefpodmdpnppaaDoorCelC
import Derived.SizedLaws
import Derived.Lib.SmallJoins
import Derived.ChangeSlices
import Derived.SliceStrings
import Derived.ProofKit
import Derived.OpenShut
namespace Go.Proofs.YtiefpodmdpnppaaDoor
open Go.ChangeShapes Go.WideShapes Go.ChangeAt Go.RowKit Go.WideElems

/-- what a slice that came in reads as -/
def Rdw (w : World) (k : Nat) (v : Value) (n : Nat) (xs : List Value) : Prop :=
  xs.length = n * k ∧ ∃ A c, v = .slice A n c ∧ n ≤ c ∧ c ≤ maxLen ∧ (0 < n → ∃ b o, A = some ⟨b, o, none⟩ ∧ b < w.heap.size ∧ ∀ j u, xs[j]? = some u → w.cell? ⟨b, o + j, none⟩ = some u)
theorem Rdw.next {w w' : World} {k n : Nat} {v : Value} {xs : List Value} (h : Rdw w k v n xs) (hb : Below w.heap.size w w') : Rdw w' k v n xs := by
  obtain ⟨h1, A, c, hv, h2, h3, h5⟩ := h
  refine ⟨h1, A, c, hv, h2, h3, fun hn => ?_⟩
  obtain ⟨b, o, hA, hlt, hc⟩ := h5 hn
  exact ⟨b, o, hA, Nat.lt_of_lt_of_le hlt hb.size, fun j u hu => (hb.cell (p := ⟨b, o + j, none⟩) hlt).trans (hc j u hu)⟩

section
variable {H : Type} {enc : TypeId × Value → H} {P : Program} {W : World} {base : Nat}

theorem wf_u8 {z : Int} (h : (Lit.int .u8 z).wf = true) : ∃ n : Nat, z = n ∧ n < 256 := by
  have h1 : (0 : Int) ≤ z ∧ z ≤ 255 := by
    simp [Lit.wf] at h
    have e1 : IntKind.u8.min = 0 := rfl
    have e2 : IntKind.u8.max = 255 := rfl
    omega
  exact ⟨z.toNat, by omega, by omega⟩

theorem opn_size {t e : TypeId} {f0 f1 f2 : Field} {v : Value} {d : DataW H} {p : List MemPlace} (hs : P.underlying t = some (.struct #[f0, f1, f2])) (hone : Go.Deep.oneCellFields P #[f0, f1, f2] = true) (hC : P.cellsOf t = 3)
    (e0 : f0.type = e) (e1 : f1.type = e) (e2 : f2.type = e) (he : P.underlying e = some (.int .u8))
    (hv : Value.okWide P W .any base t v) (h : DataW.Trod enc P W 0 (fun _ => true) true t v d p) :
    ∃ a b c : Nat, v = .agg #[.int .u8 a, .int .u8 b, .int .u8 c] ∧ a < 256 ∧ b < 256 ∧ c < 256 := by
  obtain ⟨v0, v1, v2, y0, y1, y2, n, rfl, -, -, h0, h1, h2⟩ := Joins.open_agg3 hs hone hC hv h
  rw [e0] at h0; rw [e1] at h1; rw [e2] at h2
  obtain ⟨z0, q0, -, w0⟩ := DataW.trod_int he h0
  obtain ⟨z1, q1, -, w1⟩ := DataW.trod_int he h1
  obtain ⟨z2, q2, -, w2⟩ := DataW.trod_int he h2
  obtain ⟨a, rfl, ha⟩ := wf_u8 w0
  obtain ⟨b, rfl, hb⟩ := wf_u8 w1
  obtain ⟨c, rfl, hc⟩ := wf_u8 w2
  simp only [List.cons.injEq, and_true] at q0 q1 q2
  subst q0 q1 q2
  exact ⟨a, b, c, rfl, ha, hb, hc⟩

theorem opn_arr2 {t e : TypeId} {v : Value} {d : DataW H} {p : List MemPlace} (ht : P.underlying t = some (.array 2 e)) (he : P.underlying e = some (.int .u8)) (hC : P.cellsOf t = 2) (hc : P.cellsOf e = 1)
    (hv : Value.okWide P W .any base t v) (h : DataW.Trod enc P W 0 (fun _ => true) true t v d p) : ∃ a b : Nat, v = .agg #[.int .u8 a, .int .u8 b] ∧ a < 256 ∧ b < 256 := by
  simp only [Value.okWide, ht] at hv
  obtain ⟨cs, rfl, hsz, -⟩ := hv
  rw [hC] at hsz
  obtain ⟨l⟩ := cs
  match l, hsz with
  | [x, y], _ =>
    obtain ⟨fuel, hf⟩ := h
    obtain ⟨xs, m, -, -, -, hl, hel⟩ := DataW.trod_array ht hf
    have h0 := hel 0 (by omega)
    have h1 := hel 1 (by omega)
    rw [hc, List.getElem?_eq_getElem (by omega)] at h0 h1
    obtain ⟨z0, q0, -, w0⟩ := DataW.trod_int he h0
    obtain ⟨z1, q1, -, w1⟩ := DataW.trod_int he h1
    obtain ⟨a, rfl, ha⟩ := wf_u8 w0
    obtain ⟨b, rfl, hb⟩ := wf_u8 w1
    simp [Value.cells] at q0 q1
    subst q0 q1
    exact ⟨a, b, rfl, ha, hb⟩

theorem opn_bytes {t e : TypeId} {v : Value} {d : DataW H} {p : List MemPlace} (ht : P.underlying t = some (.slice e)) (he : P.underlying e = some (.int .u8)) (hc : P.cellsOf e = 1) (hb : P.bytesOf e = 1)
    (hv : Value.okWide P W .any base t v) (h : DataW.Trod enc P W 0 (fun _ => true) true t v d p) {ts : List TypeId} {ds : List (DataW H)} (hsz : (DataW.weightsEach P ts ds).all (· ≤ reachBytes) = true) (j : Nat) (htj : ts[j]? = some t) (hdj : ds[j]? = some d) :
    ∃ l : List UInt8, Rdw W 1 v l.length (Lib.byteCells l) ∧ l.length ≤ 140737488351232 := by
  obtain ⟨a1, len, cap, rfl⟩ := okWide_slice ht hv
  obtain ⟨fuel, hf⟩ := h
  rcases open_ints ht he hc hf with ⟨hcs, -⟩ | ⟨a, len', cap', zs, hcs, _, hl, hm, hz, hx, hcell, hwz⟩
  · simp [Value.cells] at hcs
    obtain ⟨rfl, rfl, rfl⟩ := hcs
    exact ⟨[], ⟨by simp [Lib.byteCells], none, 0, rfl, Nat.le_refl _, Nat.zero_le _, fun h => absurd h (by decide)⟩, Nat.zero_le _⟩
  · simp [Value.cells] at hcs
    obtain ⟨rfl, rfl, rfl⟩ := hcs
    simp only [Prod.mk.injEq] at hx
    obtain ⟨rfl, rfl⟩ := hx
    simp only [if_true] at hz
    have hlen : ((zs.take len).map fun n => UInt8.ofNat n.toNat).length = len := by simp; omega
    have hs := sized_slice hsz (j := j) (t := t) (e := e) htj hdj ht
    rw [hb] at hs
    simp only [lits, List.length_map, List.length_take, List.length_drop, reachBytes] at hs
    refine ⟨(zs.take len).map fun n => UInt8.ofNat n.toNat, ?_, by rw [hlen]; omega⟩
    rw [hlen]
    obtain ⟨ab, ao, spot⟩ := a
    refine ⟨by unfold Lib.byteCells; simp; omega, some ⟨ab, ao, spot⟩, cap, rfl, hl, hm, fun hn => ?_⟩
    have hspot : spot = none := by simpa [Addr.add] using World.cell?_spot (hcell 0 (by omega))
    subst hspot
    refine ⟨ab, ao, rfl, ?_, fun i u hu => ?_⟩
    · have h0 := hcell 0 (by omega)
      rw [add_none] at h0
      rcases Nat.lt_or_ge ab W.heap.size with hlt | hge
      · exact hlt
      · exact absurd h0 (by simp [World.cell?, Array.getElem?_eq_none hge])
    · have hi : i < len := by
        have := (List.getElem?_eq_some_iff.1 hu).1
        unfold Lib.byteCells at this
        simp at this; omega
      have hci := hcell i (by omega)
      rw [add_none] at hci
      rw [hci, ← hu]
      have e : zs.getD i 0 = zs[i]'(by omega) := by simp [List.getD, List.getElem?_eq_getElem (show i < zs.length by omega)]
      obtain ⟨n, hn1, hn2⟩ := wf_u8 (hwz (zs[i]'(by omega)) (List.getElem_mem _))
      unfold Lib.byteCells
      rw [List.getElem?_map, List.getElem?_map, List.getElem?_take_of_lt hi, List.getElem?_eq_getElem (show i < zs.length by omega), e, hn1]
      simp only [Option.map_some, Int.toNat_natCast, UInt8.toNat_ofNat']
      congr 3
      omega
end
end Go.Proofs.YtiefpodmdpnppaaDoor
