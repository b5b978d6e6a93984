/- Closed facts of the row TopSkew, part 3. No condition. -/
import Derived.Test.YtnidgljkbmceaaaGreatDoorRows
import Derived.WalkKit
import Derived.ProofKit
import Derived.OpenShut
import Derived.ShutString
import Derived.ChangeOld
import Derived.Below
import Derived.SizedLaws
import Derived.LaidMore
import Derived.Handed
import Derived.Stop.Joined
import Derived.SevenTiedAt
namespace Go.Proofs.YtnidgljkbmceaaaGreatDoor.topSkew
open Go.ChangeShapes Go.WideShapes Go.ChangeAt Go.WideMaps Go.WideElems Go.RowKit
open Go.ChangeMaps (open_string shut_string)
theorem q24 : (Tryz.pinned.checked.prog.stopsHeard) = true := by kernel_rfl
theorem q25 : (Tryz.pinned.checked.prog.mayEnter) = true := by kernel_rfl
theorem q26 : (Rows.topSkewRow.lifted == Tryz.pinned.checked.prog.liftsFinal) = true := by kernel_rfl
theorem q27 : (Tryz.pinned.checked.prog.make == some Rows.topSkewRow.make) = true := by kernel_rfl
theorem q28 : (Rows.topSkewRow.kinds == (if Rows.topSkewRow.domain.isEmpty then [] else Tryz.f3.params.toList.map fun t => match Tryz.pinned.checked.prog.underlying t with | some (.int k) => some k | _ => none)) = true := by kernel_rfl
theorem q29 : (Rows.topSkewRow.pinned == Rows.topSkewRow.pinnedBy) = true := by kernel_rfl
theorem q30 : (Rows.topSkewRow.veiled == (Tryz.f3.params.toList ++ Rows.topSkewSpec.plain.varTypes Tryz.pinned.checked.prog ++ Tryz.f3.resultTypes.toList).any (Tryz.pinned.checked.prog.veiledRec ·)) = true := by kernel_rfl
theorem q31 : (Rows.topSkewRow.veiledFits Tryz.pinned.checked.prog Tryz.f3.params.toList (Tryz.f3.params.toList ++ Rows.topSkewSpec.plain.varTypes Tryz.pinned.checked.prog ++ Tryz.f3.resultTypes.toList)) = true := by kernel_rfl
end Go.Proofs.YtnidgljkbmceaaaGreatDoor.topSkew
