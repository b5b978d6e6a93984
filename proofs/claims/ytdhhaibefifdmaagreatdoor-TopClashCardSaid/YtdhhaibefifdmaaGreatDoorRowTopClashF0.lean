/- Closed facts of the row TopClash, part 0. No condition. -/
import Derived.Test.YtdhhaibefifdmaaGreatDoorRows
import Derived.WalkKit
import Derived.ProofKit
import Derived.OpenShut
import Derived.ShutString
import Derived.ChangeOld
import Derived.Below
import Derived.SizedLaws
import Derived.LaidMore
import Derived.Handed
import Derived.Stop.Joined
import Derived.SevenTiedAt
namespace Go.Proofs.YtdhhaibefifdmaaGreatDoor.topClash
open Go.ChangeShapes Go.WideShapes Go.ChangeAt Go.WideMaps Go.WideElems Go.RowKit
open Go.ChangeMaps (open_string shut_string)
theorem q0 : (Rows.topClashRow.wf (OpenSpec.ofChange Rows.topClashSpec)) = true := by kernel_rfl
theorem q1 : (laidOutB Tryz.pinned.checked.prog) = true := by kernel_rfl
theorem q2 : (mapsRowed Tryz.pinned.checked.prog) = true := by kernel_rfl
theorem q3 : (Tryz.f3.params.all (Tryz.pinned.checked.prog.readableRec ·)) = true := by kernel_rfl
theorem q4 : (namedTie Tryz.pinned.checked.prog Rows.topClashRow.named Rows.topClashSpec.vars) = true := by kernel_rfl
theorem q5 : (Rows.topClashRow.stops == []) = true := by kernel_rfl
theorem q6 : (Tryz.pinned.checked.prog.stops == []) = true := by kernel_rfl
theorem q7 : (Rows.topClashRow.knobs == []) = true := by kernel_rfl
theorem q8 : (Tryz.pinned.checked.prog.stopKnobs == []) = true := by kernel_rfl
end Go.Proofs.YtdhhaibefifdmaaGreatDoor.topClash
