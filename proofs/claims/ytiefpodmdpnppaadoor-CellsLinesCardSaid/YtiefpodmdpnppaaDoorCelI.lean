/-
  WALKS of layer 56: commands.
-/
import Derived.Test.YtiefpodmdpnppaaDoorCelH
import Derived.MapKept
import Derived.Carry
namespace Go.Proofs.YtiefpodmdpnppaaDoor
open Go.RowKit

def cmdFn (f : FuncId) : Value := .func (.func f) #[] #[]
def cmdList : List MapEntry := [⟨.int .u8 65, .func (.func 54) #[] #[], 0⟩, ⟨.int .u8 66, .func (.func 55) #[] #[], 1⟩, ⟨.int .u8 67, .func (.func 56) #[] #[], 2⟩, ⟨.int .u8 68, .func (.func 57) #[] #[], 3⟩, ⟨.int .u8 72, .func (.func 58) #[] #[], 4⟩, ⟨.int .u8 74, .func (.func 59) #[] #[], 5⟩, ⟨.int .u8 75, .func (.func 61) #[] #[], 6⟩]
def cmdMap (n : Nat) : Obj := .map (cmdList.take n).toArray n
theorem push_setIf {α : Type} (a : Array α) (o o' : α) : (a.push o).setIfInBounds a.size o' = a.push o' := by
  apply Array.ext
  · simp
  · intro i h1 h2
    simp only [Array.size_setIfInBounds, Array.size_push] at h1
    rw [Array.getElem_setIfInBounds (by simpa using h1), Array.getElem_push, Array.getElem_push]
    by_cases h : i < a.size
    · rw [if_neg (by omega), dif_pos h, dif_pos h]
    · rw [if_pos (by omega), dif_neg h]
theorem heap_setIf (w : World) (o o' : Obj) : ({ w.alloc o with heap := (w.alloc o).heap.setIfInBounds w.heap.size o' } : World) = w.alloc o' := by
  have := push_setIf w.heap o o'
  unfold World.alloc
  simp only
  rw [this]
theorem put_cmd (w : World) (n : Nat) (k : Int) (v : Value) (hf : Instr.findNow (.int .u8) (.int .u8 k) (cmdList.take n) 0 = some none) (hn : (cmdList.take n).toArray.push ⟨.int .u8 k, v, n⟩ = (cmdList.take (n + 1)).toArray) :
    (Instr.mapUpdate 78 (.map (some w.heap.size)) (.int .u8 k) v).run Tryd.prog (w.alloc (cmdMap n)) = .ok () (w.alloc (cmdMap (n + 1))) := by
  have hb : (w.alloc (cmdMap n)).heap[w.heap.size]? = some (.map (cmdList.take n).toArray n) := heap_alloc_new w _
  simp only [Instr.mapUpdate, Sem.run_bind, run_underlying Tryd.underlying78, Result.andThen, MapKept.run_getObj_map hb, MapKept.run_checkKey Tryd.underlying5 (k := .int .u8 k) (by simp [MapKept.IsKey]), MapKept.run_findKey Tryd.underlying5 hf, MapKept.run_setObj_map _ hb]
  have := heap_setIf w (cmdMap n) (.map ((cmdList.take n).toArray.push ⟨.int .u8 k, v, n⟩) (n + 1))
  rw [hn] at this
  rw [hn]
  exact congrArg (Result.ok ()) this
theorem look_cmd (w : World) (r : Nat) (k : Int) (f : Value) (i : Nat) (hr : w.heap[r]? = some (cmdMap 7)) (hf : Instr.findNow (.int .u8) (.int .u8 k) cmdList 0 = some (some (i, f))) :
    (Instr.lookup 78 (.map (some r)) (.int .u8 k) true).run Tryd.prog w = .ok (.tuple #[f, .bool true]) w := by
  have hb : w.heap[r]? = some (.map cmdList.toArray 7) := hr
  simp [Instr.lookup, Sem.run_bind, run_underlying Tryd.underlying78, Result.andThen, MapKept.run_getObj_map hb, MapKept.run_checkKey Tryd.underlying5 (k := .int .u8 k) (by simp [MapKept.IsKey]), MapKept.run_findKey Tryd.underlying5 hf]
theorem look_none (w : World) (r : Nat) (k : Int) (hr : w.heap[r]? = some (cmdMap 7)) (hf : Instr.findNow (.int .u8) (.int .u8 k) cmdList 0 = some none) :
    (Instr.lookup 78 (.map (some r)) (.int .u8 k) true).run Tryd.prog w = .ok (.tuple #[.nilFunc, .bool false]) w := by
  have hb : w.heap[r]? = some (.map cmdList.toArray 7) := hr
  simp [Instr.lookup, Sem.run_bind, run_underlying Tryd.underlying78, Result.andThen, MapKept.run_getObj_map hb, MapKept.run_checkKey Tryd.underlying5 (k := .int .u8 k) (by simp [MapKept.IsKey]), MapKept.run_findKey Tryd.underlying5 hf]
theorem map_zero : (Obj.map #[] 0) = cmdMap 0 := rfl

set_option maxRecDepth 100000 in
set_option maxHeartbeats 600000 in
theorem commands_walk (w : World) :
    Calls Tryd.prog 40 #[] w (fun e w' => e = .returned (.map (some w.heap.size)) ∧ w' = w.alloc (cmdMap 7)) := by
  have hmm : (Instr.makeMap 78 none).run Tryd.prog w = .ok (.map (some w.heap.size)) (w.alloc (cmdMap 0)) := run_makeMap _ _
  have p1 := put_cmd w 0 65 (.func (.func 54) #[] #[]) rfl rfl
  have p2 := put_cmd w 1 66 (.func (.func 55) #[] #[]) rfl rfl
  have p3 := put_cmd w 2 67 (.func (.func 56) #[] #[]) rfl rfl
  have p4 := put_cmd w 3 68 (.func (.func 57) #[] #[]) rfl rfl
  have p5 := put_cmd w 4 72 (.func (.func 58) #[] #[]) rfl rfl
  have p6 := put_cmd w 5 74 (.func (.func 59) #[] #[]) rfl rfl
  have p7 := put_cmd w 6 75 (.func (.func 61) #[] #[]) rfl rfl
  generalize cmdMap 7 = m7 at *
  generalize cmdMap 6 = m6 at *
  generalize cmdMap 5 = m5 at *
  generalize cmdMap 4 = m4 at *
  generalize cmdMap 3 = m3 at *
  generalize cmdMap 2 = m2 at *
  generalize cmdMap 1 = m1 at *
  generalize cmdMap 0 = m0 at *
  go_enter Tryd.func40, Tryd.ntmps40
  go_wp2_with fail
  go_ret
  exact ⟨rfl, rfl⟩
end Go.Proofs.YtiefpodmdpnppaaDoor
