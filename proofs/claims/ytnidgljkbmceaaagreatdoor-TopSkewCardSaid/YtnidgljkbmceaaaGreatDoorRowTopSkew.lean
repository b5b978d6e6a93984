/- The row of the law TopSkew out of its walk: for every input it returns true, and each argument reads as it did. No condition. -/
import Derived.Test.YtnidgljkbmceaaaGreatDoorRowTopSkewB
import Derived.WalkKit
import Derived.ProofKit
import Derived.OpenShut
import Derived.ShutString
import Derived.ChangeOld
import Derived.Below
import Derived.SizedLaws
import Derived.LaidMore
import Derived.Handed
import Derived.Stop.Joined
import Derived.SevenTiedAt
namespace Go.Proofs.YtnidgljkbmceaaaGreatDoor.topSkew
open Go.ChangeShapes Go.WideShapes Go.ChangeAt Go.WideMaps Go.WideElems Go.RowKit
open Go.ChangeMaps (open_string shut_string)
set_option maxRecDepth 100000 in
theorem goes_ : false = Rows.topSkewRow.goesBy Tryz.pinned.checked.prog := by kernel_rfl
set_option maxRecDepth 100000 in
theorem looks_ : true = Tryz.pinned.checked.prog.looks [] := by kernel_rfl
theorem card : Claim7.holds Tryz.pinned (.plain (OpenSpec.ofChange Rows.topSkewSpec)) Rows.topSkewCard :=
  Claim7.holds_tied_plain_at .later [] [.data, .handle, .data, .pinned] true (true, "2bfd8ddb825b161fd8ff7d15281c75cc9e77aa4fe8409871d37c993063a243c7") true
    over (fun _ h => by cases h) (by kernel_rfl) (fun _ h => by cases h) topSkew_row_tie rfl ⟨rfl, rfl⟩ (by kernel_rfl) rfl
    (fun f fn hf hfn => by
      obtain rfl : f = 3 := Option.some.inj ((show Tryz.prog.funcNamed "countinghouse/countinghousetop.TopSkew" = some 3 by kernel_rfl).symm.trans hf) |>.symm
      obtain rfl : fn = Tryz.f3 := (Option.some.inj (Tryz.func3.symm.trans hfn)).symm
      exact ⟨looks_, fun j t ht => by
        rw [Tryz.params3] at ht
        have hm : t ∈ [5, 5, 4] := by simpa using Array.mem_of_getElem? ht
        have hall : ([5, 5, 4].all fun u => !Tryz.prog.wantsStandIn u) = true := by kernel_rfl
        exact (show Tryz.prog.wantsStandIn t = false by simpa using List.all_eq_true.1 hall t hm)⟩)
    goes_
theorem proved : Rows.TopSkewCardSaid := card
#print axioms proved
end Go.Proofs.YtnidgljkbmceaaaGreatDoor.topSkew
namespace Go.Proofs.YtnidgljkbmceaaaGreatDoor
/-- The card, under a short name. -/
theorem topSkew_holds : Rows.TopSkewCardSaid := topSkew.proved
end Go.Proofs.YtnidgljkbmceaaaGreatDoor
