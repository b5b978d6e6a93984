/- Closed facts of the row TopSkew, part 0. No condition. -/
import Derived.Test.YtnidgljkbmceaaaGreatDoorRows
import Derived.WalkKit
import Derived.ProofKit
import Derived.OpenShut
import Derived.ShutString
import Derived.ChangeOld
import Derived.Below
import Derived.SizedLaws
import Derived.LaidMore
import Derived.Handed
import Derived.Stop.Joined
import Derived.SevenTiedAt
namespace Go.Proofs.YtnidgljkbmceaaaGreatDoor.topSkew
open Go.ChangeShapes Go.WideShapes Go.ChangeAt Go.WideMaps Go.WideElems Go.RowKit
open Go.ChangeMaps (open_string shut_string)
theorem q0 : (Rows.topSkewRow.wf (OpenSpec.ofChange Rows.topSkewSpec)) = true := by kernel_rfl
theorem q1 : (laidOutB Tryz.pinned.checked.prog) = true := by kernel_rfl
theorem q2 : (mapsRowed Tryz.pinned.checked.prog) = true := by kernel_rfl
theorem q3 : (Tryz.f3.params.all (Tryz.pinned.checked.prog.readableRec ·)) = true := by kernel_rfl
theorem q4 : (namedTie Tryz.pinned.checked.prog Rows.topSkewRow.named Rows.topSkewSpec.vars) = true := by kernel_rfl
theorem q5 : (Rows.topSkewRow.stops == []) = true := by kernel_rfl
theorem q6 : (Tryz.pinned.checked.prog.stops == []) = true := by kernel_rfl
theorem q7 : (Rows.topSkewRow.knobs == []) = true := by kernel_rfl
theorem q8 : (Tryz.pinned.checked.prog.stopKnobs == []) = true := by kernel_rfl
end Go.Proofs.YtnidgljkbmceaaaGreatDoor.topSkew
