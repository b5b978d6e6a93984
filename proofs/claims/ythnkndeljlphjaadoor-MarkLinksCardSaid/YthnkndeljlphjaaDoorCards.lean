/-
  DERIVED. GIVEN WITH THE SEED: THE CARDS: each row of YthnkndeljlphjaaDoorRows.lean that lists a variable, with what it lists TIED to the program's text (the seventh form; the later family's looks); each row that meets fmt, with fmt's text TOLD by the authors' own Lean function (tested against real Go, not proved from fmt's source: count such statements apart). THE CARD IS WHAT COUNTS. Prove the row's statement (the work); the ties are given (YthnkndeljlphjaaDoorTie.lean); close each card by the builder's one call (the guide's Derived/Test/ToyasCard.lean, 'card_holds'). Laid BY PROGRAM, IN A SANDBOX (cutbox-door.mjs). By AI agents, Wed Nov 11 2026. No macro, syntax, notation, axiom, sorry.
-/
import Derived.Test.YthnkndeljlphjaaDoorRows
import GoSem.ClaimSeven
namespace Go.Proofs.YthnkndeljlphjaaDoor
namespace Rows

/-- THE TIED CARD OF 'countinghouselaw04.MarkOwn'. -/
def markOwnCard : Claim7 := { stood := { row := markOwnRow, standIns := [], harness := (true, "628523b6c3258218e9f81a3b905bfc5865fa804931a93b987cb8e10b004f9fc7"), looks := false }, kinds := [], alts := [], laidByText := true, laidKinds := [.data], laidTests := true, laidLooks := .later }
def MarkOwnCardSaid : Prop := Claim7.holds Tryd.pinned (.plain (OpenSpec.ofChange markOwnSpec)) markOwnCard

/-- THE TIED CARD OF 'countinghouselaw04.MarkLeaf'. -/
def markLeafCard : Claim7 := { stood := { row := markLeafRow, standIns := [], harness := (true, "628523b6c3258218e9f81a3b905bfc5865fa804931a93b987cb8e10b004f9fc7"), looks := false }, kinds := [], alts := [], laidByText := true, laidKinds := [.data], laidTests := true, laidLooks := .later }
def MarkLeafCardSaid : Prop := Claim7.holds Tryd.pinned (.plain (OpenSpec.ofChange markLeafSpec)) markLeafCard

/-- THE TIED CARD OF 'countinghouselaw04.MarkNodes'. -/
def markNodesCard : Claim7 := { stood := { row := markNodesRow, standIns := [], harness := (true, "628523b6c3258218e9f81a3b905bfc5865fa804931a93b987cb8e10b004f9fc7"), looks := false }, kinds := [], alts := [], laidByText := true, laidKinds := [.data], laidTests := true, laidLooks := .later }
def MarkNodesCardSaid : Prop := Claim7.holds Tryd.pinned (.plain (OpenSpec.ofChange markNodesSpec)) markNodesCard

/-- THE TIED CARD OF 'countinghouselaw04.MarkApart'. -/
def markApartCard : Claim7 := { stood := { row := markApartRow, standIns := [], harness := (true, "628523b6c3258218e9f81a3b905bfc5865fa804931a93b987cb8e10b004f9fc7"), looks := false }, kinds := [], alts := [], laidByText := true, laidKinds := [.data], laidTests := true, laidLooks := .later }
def MarkApartCardSaid : Prop := Claim7.holds Tryd.pinned (.plain (OpenSpec.ofChange markApartSpec)) markApartCard

/-- THE TIED CARD OF 'countinghouselaw04.MarkLinks'. -/
def markLinksCard : Claim7 := { stood := { row := markLinksRow, standIns := [], harness := (true, "628523b6c3258218e9f81a3b905bfc5865fa804931a93b987cb8e10b004f9fc7"), looks := false }, kinds := [], alts := [], laidByText := true, laidKinds := [.data], laidTests := true, laidLooks := .later }
def MarkLinksCardSaid : Prop := Claim7.holds Tryd.pinned (.plain (OpenSpec.ofChange markLinksSpec)) markLinksCard

/-- THE SECOND FORM's CARD OF 'countinghouselaw04.MarkOwn'. -/
def markOwnUptoCard : Claim7 := { stood := { row := markOwnUptoRow, standIns := [], harness := (true, "628523b6c3258218e9f81a3b905bfc5865fa804931a93b987cb8e10b004f9fc7"), looks := false }, kinds := [], alts := [], laidByText := true, laidKinds := [.data], laidTests := true, laidLooks := .later }
def MarkOwnUptoCardSaid : Prop := Claim7.holds Tryd.pinned (.plain (OpenSpec.upto markOwnSpec)) markOwnUptoCard

/-- THE SECOND FORM's CARD OF 'countinghouselaw04.MarkLeaf'. -/
def markLeafUptoCard : Claim7 := { stood := { row := markLeafUptoRow, standIns := [], harness := (true, "628523b6c3258218e9f81a3b905bfc5865fa804931a93b987cb8e10b004f9fc7"), looks := false }, kinds := [], alts := [], laidByText := true, laidKinds := [.data], laidTests := true, laidLooks := .later }
def MarkLeafUptoCardSaid : Prop := Claim7.holds Tryd.pinned (.plain (OpenSpec.upto markLeafSpec)) markLeafUptoCard

/-- THE SECOND FORM's CARD OF 'countinghouselaw04.MarkNodes'. -/
def markNodesUptoCard : Claim7 := { stood := { row := markNodesUptoRow, standIns := [], harness := (true, "628523b6c3258218e9f81a3b905bfc5865fa804931a93b987cb8e10b004f9fc7"), looks := false }, kinds := [], alts := [], laidByText := true, laidKinds := [.data], laidTests := true, laidLooks := .later }
def MarkNodesUptoCardSaid : Prop := Claim7.holds Tryd.pinned (.plain (OpenSpec.upto markNodesSpec)) markNodesUptoCard

/-- THE SECOND FORM's CARD OF 'countinghouselaw04.MarkApart'. -/
def markApartUptoCard : Claim7 := { stood := { row := markApartUptoRow, standIns := [], harness := (true, "628523b6c3258218e9f81a3b905bfc5865fa804931a93b987cb8e10b004f9fc7"), looks := false }, kinds := [], alts := [], laidByText := true, laidKinds := [.data], laidTests := true, laidLooks := .later }
def MarkApartUptoCardSaid : Prop := Claim7.holds Tryd.pinned (.plain (OpenSpec.upto markApartSpec)) markApartUptoCard

/-- THE SECOND FORM's CARD OF 'countinghouselaw04.MarkLinks'. -/
def markLinksUptoCard : Claim7 := { stood := { row := markLinksUptoRow, standIns := [], harness := (true, "628523b6c3258218e9f81a3b905bfc5865fa804931a93b987cb8e10b004f9fc7"), looks := false }, kinds := [], alts := [], laidByText := true, laidKinds := [.data], laidTests := true, laidLooks := .later }
def MarkLinksUptoCardSaid : Prop := Claim7.holds Tryd.pinned (.plain (OpenSpec.upto markLinksSpec)) markLinksUptoCard
end Rows
end Go.Proofs.YthnkndeljlphjaaDoor
