/- The row's statement of the law TopSkew, out of its closed facts. No condition. -/
import Derived.Test.YtnidgljkbmceaaaGreatDoorRowTopSkewA
import Derived.Test.YtnidgljkbmceaaaGreatDoorRowTopSkewF0
import Derived.Test.YtnidgljkbmceaaaGreatDoorRowTopSkewF1
import Derived.Test.YtnidgljkbmceaaaGreatDoorRowTopSkewF2
import Derived.Test.YtnidgljkbmceaaaGreatDoorRowTopSkewF3
import Derived.WalkKit
import Derived.ProofKit
import Derived.OpenShut
import Derived.ShutString
import Derived.ChangeOld
import Derived.Below
import Derived.SizedLaws
import Derived.LaidMore
import Derived.Handed
import Derived.Stop.Joined
import Derived.SevenTiedAt
namespace Go.Proofs.YtnidgljkbmceaaaGreatDoor.topSkew
open Go.ChangeShapes Go.WideShapes Go.ChangeAt Go.WideMaps Go.WideElems Go.RowKit
open Go.ChangeMaps (open_string shut_string)
set_option maxRecDepth 100000 in
theorem joined : joinedFacts Tryz.pinned.checked.prog 3 Tryz.f3 Rows.topSkewSpec Rows.topSkewRow = true := by
  unfold joinedFacts
  simp only [Bool.and_eq_true]
  exact ⟨⟨⟨⟨⟨⟨⟨⟨⟨⟨⟨⟨⟨⟨⟨⟨⟨⟨⟨⟨⟨⟨⟨⟨⟨⟨⟨⟨⟨⟨⟨q0, q1⟩, q2⟩, q3⟩, q4⟩, q5⟩, q6⟩, q7⟩, q8⟩, q9⟩, q10⟩, q11⟩, q12⟩, q13⟩, q14⟩, q15⟩, q16⟩, q17⟩, q18⟩, q19⟩, q20⟩, q21⟩, q22⟩, q23⟩, q24⟩, q25⟩, q26⟩, q27⟩, q28⟩, q29⟩, q30⟩, q31⟩
set_option maxRecDepth 100000 in
theorem over : Rows.topSkewRow.holds Tryz.pinned (OpenSpec.ofChange Rows.topSkewSpec) :=
  OpenClaim.holds_of_wide 3 Tryz.f3 rfl rfl rfl rfl rfl rfl rfl ⟨rfl, rfl, rfl, rfl, rfl⟩ rfl rfl rfl rfl rfl (by kernel_rfl) Tryz.func3 joined
    (of_decide_eq_true (by kernel_rfl)) (by unfold Func.isWrapper; first | (rw [if_pos (by decide +kernel)]; kernel_rfl) | (rw [if_neg (by decide +kernel)]; exact ⟨rfl, rfl⟩))
    (fun os started H enc _ => lifted os started H enc)

end Go.Proofs.YtnidgljkbmceaaaGreatDoor.topSkew
