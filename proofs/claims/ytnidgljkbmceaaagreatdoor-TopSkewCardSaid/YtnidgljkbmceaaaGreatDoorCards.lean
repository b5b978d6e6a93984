/-
  DERIVED. GIVEN WITH THE SEED: THE CARDS: each row of YtnidgljkbmceaaaGreatDoorRows.lean that lists a variable, with what it lists TIED to the program's text (the seventh form; the later family's looks); each row that meets fmt, with fmt's text TOLD by the authors' own Lean function (tested against real Go, not proved from fmt's source: count such statements apart). THE CARD IS WHAT COUNTS. Prove the row's statement (the work); the ties are given (YtnidgljkbmceaaaGreatDoorTie.lean); close each card by the builder's one call (the guide's Derived/Test/ToyasCard.lean, 'card_holds'). Laid BY PROGRAM, IN A SANDBOX (cutbox-door.mjs). By AI agents, Wed Nov 11 2026. No macro, syntax, notation, axiom, sorry.
-/
import Derived.Test.YtnidgljkbmceaaaGreatDoorRows
import GoSem.ClaimSeven
namespace Go.Proofs.YtnidgljkbmceaaaGreatDoor
namespace Rows

/-- THE TIED CARD OF 'countinghousetop.TopSkew'. -/
def topSkewCard : Claim7 := { stood := { row := topSkewRow, standIns := [], harness := (true, "2bfd8ddb825b161fd8ff7d15281c75cc9e77aa4fe8409871d37c993063a243c7"), looks := true }, kinds := [], alts := [], laidByText := true, laidKinds := [.data, .handle, .data, .pinned], laidTests := true, laidLooks := .later }
def TopSkewCardSaid : Prop := Claim7.holds Tryz.pinned (.plain (OpenSpec.ofChange topSkewSpec)) topSkewCard

/-- THE SECOND FORM's CARD OF 'countinghousetop.TopSkew'. -/
def topSkewUptoCard : Claim7 := { stood := { row := topSkewUptoRow, standIns := [], harness := (true, "2bfd8ddb825b161fd8ff7d15281c75cc9e77aa4fe8409871d37c993063a243c7"), looks := true }, kinds := [], alts := [], laidByText := true, laidKinds := [.data, .handle, .data, .pinned], laidTests := true, laidLooks := .later }
def TopSkewUptoCardSaid : Prop := Claim7.holds Tryz.pinned (.plain (OpenSpec.upto topSkewSpec)) topSkewUptoCard
end Rows
end Go.Proofs.YtnidgljkbmceaaaGreatDoor
