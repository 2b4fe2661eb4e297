/-
  WHAT THE ROW's LIST GIVES: the table of names, as the walks want it.
-/
import Derived.Test.YtboepibmnfmgfaaDoorRopF
import Derived.ProofKit
import Derived.LaidMore
import Derived.OpenShut
import Derived.Stop.Joined
namespace Go.Proofs.YtboepibmnfmgfaaDoor
open Go.ChangeShapes Go.WideShapes Go.ChangeAt Go.RowKit

theorem tNames : (Tryd.prog.globals[0]?).map (·.type) = some 47 := by kernel_rfl
theorem cNames : Tryd.prog.cellsOf 47 = 16 := by kernel_rfl
theorem cString : Tryd.prog.cellsOf 9 = 1 := by kernel_rfl

theorem strs_of {s : ByteArray} {l : List UInt8} (h : s.data.toList = l) : s = ⟨l.toArray⟩ := by
  cases s; simp at h; subst h; simp

theorem names_of_laid {W : World} (h : laidMetH Tryd.prog [("glazier/rop.names", Rows.laid_glazier_rop_names)] W) : NamesIn W := by
  rw [MakeChecks.laidMetH_plain _ _ _ (by kernel_rfl)] at h
  obtain ⟨ps, ⟨g0, t0, cs0, f0, p0, q0, hg0, ht0, hv0, hd0, _, _⟩, _, _⟩ := h
  obtain rfl := Option.some.inj (gNames.symm.trans hg0)
  obtain rfl := Option.some.inj (tNames.symm.trans ht0)
  obtain ⟨xs, m1, rfl, hx1, hlen, hn, hel⟩ := DataW.trod_array Tryd.underlying47 hd0
  simp only [Prod.mk.injEq, Rows.laid_glazier_rop_names, DataW.agg.injEq] at hx1
  unfold NamesIn
  rw [hv0]
  congr 1
  rw [cNames] at hlen
  have hcell : ∀ i, i < 16 → cs0[i]? = some (.string (nm i)) := by
    intro i hi
    have h0 := hel i hi
    rw [cString] at h0
    have hlt : i < cs0.toList.length := by omega
    have htk : (cs0.toList.drop (i * 1)).take 1 = [cs0.toList[i]] := by
      rw [Nat.mul_one, List.drop_eq_getElem_cons hlt]; rfl
    rw [htk] at h0
    have hxi : i < xs.length := by omega
    rw [List.getElem?_eq_getElem hxi] at h0
    obtain ⟨s, e1, e2, _⟩ := DataW.trod_string Tryd.underlying9 h0
    have e3 : cs0.toList[i] = .string s := by simpa using e1
    have e4 : (xs.map (·.1))[i]? = some (.lit (.string s.data.toList)) := by
      rw [List.getElem?_map, List.getElem?_eq_getElem hxi, e2]; rfl
    rw [← hx1.1] at e4
    have e5 : s = nm i := by
      match i, hi, e4 with
      | 0, _, e4 => simp at e4; rw [strs_of e4.symm]; rfl
      | 1, _, e4 => simp at e4; rw [strs_of e4.symm]; rfl
      | 2, _, e4 => simp at e4; rw [strs_of e4.symm]; rfl
      | 3, _, e4 => simp at e4; rw [strs_of e4.symm]; rfl
      | 4, _, e4 => simp at e4; rw [strs_of e4.symm]; rfl
      | 5, _, e4 => simp at e4; rw [strs_of e4.symm]; rfl
      | 6, _, e4 => simp at e4; rw [strs_of e4.symm]; rfl
      | 7, _, e4 => simp at e4; rw [strs_of e4.symm]; rfl
      | 8, _, e4 => simp at e4; rw [strs_of e4.symm]; rfl
      | 9, _, e4 => simp at e4; rw [strs_of e4.symm]; rfl
      | 10, _, e4 => simp at e4; rw [strs_of e4.symm]; rfl
      | 11, _, e4 => simp at e4; rw [strs_of e4.symm]; rfl
      | 12, _, e4 => simp at e4; rw [strs_of e4.symm]; rfl
      | 13, _, e4 => simp at e4; rw [strs_of e4.symm]; rfl
      | 14, _, e4 => simp at e4; rw [strs_of e4.symm]; rfl
      | 15, _, e4 => simp at e4; rw [strs_of e4.symm]; rfl
      | n + 16, h, _ => exact absurd h (by omega)
    rw [← e5, ← e3]
    simp
  have hsz : cs0.size = 16 := by simpa using hlen
  apply Array.ext_getElem?
  intro i
  by_cases hi : i < 16
  · rw [hcell i hi, namesArr_at i hi]
  · rw [Array.getElem?_eq_none (by omega), Array.getElem?_eq_none (by show 16 ≤ i; omega)]
end Go.Proofs.YtboepibmnfmgfaaDoor
