/-
  The cells' values under the meek law.
-/
import Derived.Test.YtiefpodmdpnppaaDoorLwB
import Derived.Test.YtiefpodmdpnppaaDoorMeekB
namespace Go.Proofs.YtiefpodmdpnppaaDoor
open Go.RowKit

def Stay.ck (S : Scr) : Stay := ⟨fun v w => CK w v S, fun _ _ _ h hb => CK.next h hb⟩
theorem load_scr {w : World} {b : Nat} {S : Scr} {vc vk : Value} (h : w.heap[b]? = some (.cells (S.vals vc vk) 29 (0, 0))) : (Instr.loadAt 29 (.pointer (some ⟨b, 0, none⟩))).run Tryd.prog w = .ok (.agg (S.vals vc vk)) w := by
  have g0 : w.cell? ⟨b, 0, none⟩ = some (.int .i64 S.cols) := cell_of_row _ _ _ _ _ _ h
  have g1 : w.cell? ⟨b, 1, none⟩ = some (.int .i64 S.rows) := cell_of_row _ _ _ _ _ _ h
  have g2 : w.cell? ⟨b, 2, none⟩ = some (.int .i64 S.most) := cell_of_row _ _ _ _ _ _ h
  have g3 : w.cell? ⟨b, 3, none⟩ = some (.int .i64 S.x) := cell_of_row _ _ _ _ _ _ h
  have g4 : w.cell? ⟨b, 4, none⟩ = some (.int .i64 S.y) := cell_of_row _ _ _ _ _ _ h
  have g5 : w.cell? ⟨b, 5, none⟩ = some vc := cell_of_row _ _ _ _ _ _ h
  have g6 : w.cell? ⟨b, 6, none⟩ = some vk := cell_of_row _ _ _ _ _ _ h
  have g7 : w.cell? ⟨b, 7, none⟩ = some (.int .i64 S.st) := cell_of_row _ _ _ _ _ _ h
  have g8 : w.cell? ⟨b, 8, none⟩ = some (.int .i64 S.n0) := cell_of_row _ _ _ _ _ _ h
  have g9 : w.cell? ⟨b, 9, none⟩ = some (.int .i64 S.n1) := cell_of_row _ _ _ _ _ _ h
  have g10 : w.cell? ⟨b, 10, none⟩ = some (.int .i64 S.num) := cell_of_row _ _ _ _ _ _ h
  clear h
  rw [Scr.vals_eq]
  go_simp
end Go.Proofs.YtiefpodmdpnppaaDoor
