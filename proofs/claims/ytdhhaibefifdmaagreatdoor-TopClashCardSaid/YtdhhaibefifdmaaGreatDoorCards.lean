/-
  DERIVED. GIVEN WITH THE SEED: THE CARDS: each row of YtdhhaibefifdmaaGreatDoorRows.lean that lists a variable, with what it lists TIED to the program's text (the seventh form; the later family's looks); each row that meets fmt, with fmt's text TOLD by the authors' own Lean function (tested against real Go, not proved from fmt's source: count such statements apart). THE CARD IS WHAT COUNTS. Prove the row's statement (the work); the ties are given (YtdhhaibefifdmaaGreatDoorTie.lean); close each card by the builder's one call (the guide's Derived/Test/ToyasCard.lean, 'card_holds'). Laid BY PROGRAM, IN A SANDBOX (cutbox-door.mjs). By AI agents, Wed Nov 11 2026. No macro, syntax, notation, axiom, sorry.
-/
import Derived.Test.YtdhhaibefifdmaaGreatDoorRows
import GoSem.ClaimSeven
namespace Go.Proofs.YtdhhaibefifdmaaGreatDoor
namespace Rows

/-- THE TIED CARD OF 'countinghousetop.TopClash'. -/
def topClashCard : Claim7 := { stood := { row := topClashRow, standIns := [], harness := (true, "7c3f66202a18736667c4d759ce27dbe8cd5616040523f4b9404b93661c367ed7"), looks := true }, kinds := [], alts := [], laidByText := true, laidKinds := [.data, .handle, .data, .pinned], laidTests := true, laidLooks := .later }
def TopClashCardSaid : Prop := Claim7.holds Tryz.pinned (.plain (OpenSpec.ofChange topClashSpec)) topClashCard

/-- THE SECOND FORM's CARD OF 'countinghousetop.TopClash'. -/
def topClashUptoCard : Claim7 := { stood := { row := topClashUptoRow, standIns := [], harness := (true, "7c3f66202a18736667c4d759ce27dbe8cd5616040523f4b9404b93661c367ed7"), looks := true }, kinds := [], alts := [], laidByText := true, laidKinds := [.data, .handle, .data, .pinned], laidTests := true, laidLooks := .later }
def TopClashUptoCardSaid : Prop := Claim7.holds Tryz.pinned (.plain (OpenSpec.upto topClashSpec)) topClashUptoCard
end Rows
end Go.Proofs.YtdhhaibefifdmaaGreatDoor
