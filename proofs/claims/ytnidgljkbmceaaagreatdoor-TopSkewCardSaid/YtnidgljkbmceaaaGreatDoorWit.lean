/- A world in which all that the row lists is laid: the small tables and the handle by the door's run, the pinned table by the law. -/
import Derived.Test.YtnidgljkbmceaaaGreatDoorTiedT
import Derived.Lay
set_option linter.unusedVariables false
set_option linter.unusedSimpArgs false
namespace Go.Proofs.YtnidgljkbmceaaaGreatDoor
open Go.ChangeShapes Go.WideShapes Go.ChangeAt Go.WideMaps Go.WideElems Go.RowKit

noncomputable def witW (os : Os) : World := (World.doorLaid Tryz.prog 400 os).layVars Tryz.prog greatLaid
theorem great_of : (plainLaid.filter fun x => ["unicode/utf8.first"].contains x.1) = greatLaid := by kernel_rfl
theorem small_of : (plainLaid.filter fun x => !["unicode/utf8.first"].contains x.1) = smallLaid := by kernel_rfl
def witB : List Nat := [4, 1]
set_option maxRecDepth 100000 in
theorem wit_heap (os : Os) (args : Array Value) : ((witW os).forCall (fun _ _ => 0) ⟨#[], args, []⟩).memory.heap = (witW os).heap := by simp [World.memory, World.forCall, Input.heap]
set_option maxRecDepth 100000 in
theorem wit_fits (os : Os) : (World.doorLaid Tryz.prog 400 os).layFits Tryz.prog greatLaid witB = true := by kernel_rfl
set_option maxRecDepth 100000 in
theorem wit_ifaces (os : Os) (args : Array Value) : (World.doorLaid Tryz.prog 400 os).layIfaces Tryz.prog greatLaid ((witW os).forCall (fun _ _ => 0) ⟨#[], args, []⟩).memory = true := by kernel_rfl
set_option maxRecDepth 100000 in
theorem wit_small (os : Os) (args : Array Value) : LaidIn Tryz.prog ((witW os).forCall (fun _ _ => 0) ⟨#[], args, []⟩).memory smallLaid witB :=
  LaidIn.of_run witB 8 (by kernel_rfl) (by kernel_rfl) (by kernel_rfl) (by kernel_rfl)
set_option maxRecDepth 100000 in
theorem door_met (os : Os) (args : Array Value) : laidMetH Tryz.prog allLaid ((witW os).forCall (fun _ _ => 0) ⟨#[], args, []⟩).memory := by
  refine laidMetH_of_parts3 (fuel := 8) ?_ (by kernel_rfl) (by kernel_rfl)
  rw [plain_of]
  refine laidMet_layVars (w0 := World.doorLaid Tryz.prog 400 os) ["unicode/utf8.first"] witB ?_ ?_ ?_ ?_
  · rw [great_of]; exact wit_heap os args
  · rw [great_of]; exact wit_fits os
  · rw [great_of]; exact wit_ifaces os args
  · rw [small_of]; exact wit_small os args
end Go.Proofs.YtnidgljkbmceaaaGreatDoor
