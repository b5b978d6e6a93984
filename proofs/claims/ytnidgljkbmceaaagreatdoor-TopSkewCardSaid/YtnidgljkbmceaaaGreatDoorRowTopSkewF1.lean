/- Closed facts of the row TopSkew, part 1. No condition. -/
import Derived.Test.YtnidgljkbmceaaaGreatDoorRows
import Derived.WalkKit
import Derived.ProofKit
import Derived.OpenShut
import Derived.ShutString
import Derived.ChangeOld
import Derived.Below
import Derived.SizedLaws
import Derived.LaidMore
import Derived.Handed
import Derived.Stop.Joined
import Derived.SevenTiedAt
namespace Go.Proofs.YtnidgljkbmceaaaGreatDoor.topSkew
open Go.ChangeShapes Go.WideShapes Go.ChangeAt Go.WideMaps Go.WideElems Go.RowKit
open Go.ChangeMaps (open_string shut_string)
theorem q9 : (Rows.topSkewRow.inPlace == Tryz.pinned.checked.prog.inPlace 3) = true := by kernel_rfl
theorem q10 : (Rows.topSkewRow.unfollowed == Tryz.pinned.checked.prog.unfollowed 3) = true := by kernel_rfl
theorem q11 : (Rows.topSkewRow.recurses == Tryz.pinned.checked.prog.recurses 3) = true := by kernel_rfl
theorem q12 : (Rows.topSkewRow.named == Tryz.pinned.checked.prog.varsNamed 3) = true := by kernel_rfl
end Go.Proofs.YtnidgljkbmceaaaGreatDoor.topSkew
