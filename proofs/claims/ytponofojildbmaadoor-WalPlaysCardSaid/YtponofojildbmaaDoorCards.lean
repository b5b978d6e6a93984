/-
  DERIVED. GIVEN WITH THE SEED: THE CARDS: each row of YtponofojildbmaaDoorRows.lean that lists a variable, with what it lists TIED to the program's text (the seventh form; the later family's looks); each row that meets fmt, with fmt's text TOLD by the authors' own Lean function (tested against real Go, not proved from fmt's source: count such statements apart). THE CARD IS WHAT COUNTS. Prove the row's statement (the work); the ties are given (YtponofojildbmaaDoorTie.lean); close each card by the builder's one call (the guide's Derived/Test/ToyasCard.lean, 'card_holds'). Laid BY PROGRAM, IN A SANDBOX (cutbox-door.mjs). By AI agents, Wed Nov 11 2026. No macro, syntax, notation, axiom, sorry.
-/
import Derived.Test.YtponofojildbmaaDoorRows
import GoSem.ClaimSeven
namespace Go.Proofs.YtponofojildbmaaDoor
namespace Rows

/-- THE TIED CARD OF 'countinghouselaw08.WalFrames'. -/
def walFramesCard : Claim7 := { stood := { row := walFramesRow, standIns := [], harness := (true, "b92ab730daa794f1e4bef7fbd9cdc2adadacdab6f948f0f99ea2b47e07fdeead"), looks := false }, kinds := [], alts := [], laidByText := true, laidKinds := [.data], laidTests := true, laidLooks := .later }
def WalFramesCardSaid : Prop := Claim7.holds Tryd.pinned (.plain (OpenSpec.ofChange walFramesSpec)) walFramesCard

/-- THE TIED CARD OF 'countinghouselaw08.WalScans'. -/
def walScansCard : Claim7 := { stood := { row := walScansRow, standIns := [], harness := (true, "b92ab730daa794f1e4bef7fbd9cdc2adadacdab6f948f0f99ea2b47e07fdeead"), looks := false }, kinds := [], alts := [], laidByText := true, laidKinds := [.data], laidTests := true, laidLooks := .later }
def WalScansCardSaid : Prop := Claim7.holds Tryd.pinned (.plain (OpenSpec.ofChange walScansSpec)) walScansCard

/-- THE TIED CARD OF 'countinghouselaw08.WalTorn'. -/
def walTornCard : Claim7 := { stood := { row := walTornRow, standIns := [], harness := (true, "b92ab730daa794f1e4bef7fbd9cdc2adadacdab6f948f0f99ea2b47e07fdeead"), looks := false }, kinds := [], alts := [], laidByText := true, laidKinds := [.data], laidTests := true, laidLooks := .later }
def WalTornCardSaid : Prop := Claim7.holds Tryd.pinned (.plain (OpenSpec.ofChange walTornSpec)) walTornCard

/-- THE TIED CARD OF 'countinghouselaw08.WalOpens'. -/
def walOpensCard : Claim7 := { stood := { row := walOpensRow, standIns := [], harness := (true, "b92ab730daa794f1e4bef7fbd9cdc2adadacdab6f948f0f99ea2b47e07fdeead"), looks := false }, kinds := [], alts := [], laidByText := true, laidKinds := [.data], laidTests := true, laidLooks := .later }
def WalOpensCardSaid : Prop := Claim7.holds Tryd.pinned (.plain (OpenSpec.ofChange walOpensSpec)) walOpensCard

/-- THE TIED CARD OF 'countinghouselaw08.WalNil'. -/
def walNilCard : Claim7 := { stood := { row := walNilRow, standIns := [], harness := (true, "b92ab730daa794f1e4bef7fbd9cdc2adadacdab6f948f0f99ea2b47e07fdeead"), looks := false }, kinds := [], alts := [], laidByText := true, laidKinds := [.data], laidTests := true, laidLooks := .later }
def WalNilCardSaid : Prop := Claim7.holds Tryd.pinned (.plain (OpenSpec.ofChange walNilSpec)) walNilCard

/-- THE TIED CARD OF 'countinghouselaw08.WalKeeps'. -/
def walKeepsCard : Claim7 := { stood := { row := walKeepsRow, standIns := [], harness := (true, "b92ab730daa794f1e4bef7fbd9cdc2adadacdab6f948f0f99ea2b47e07fdeead"), looks := false }, kinds := [], alts := [], laidByText := true, laidKinds := [.data], laidTests := true, laidLooks := .later }
def WalKeepsCardSaid : Prop := Claim7.holds Tryd.pinned (.plain (OpenSpec.ofChange walKeepsSpec)) walKeepsCard

/-- THE TIED CARD OF 'countinghouselaw08.WalPlays'. -/
def walPlaysCard : Claim7 := { stood := { row := walPlaysRow, standIns := [], harness := (true, "b92ab730daa794f1e4bef7fbd9cdc2adadacdab6f948f0f99ea2b47e07fdeead"), looks := false }, kinds := [], alts := [], laidByText := true, laidKinds := [.data], laidTests := true, laidLooks := .later }
def WalPlaysCardSaid : Prop := Claim7.holds Tryd.pinned (.plain (OpenSpec.ofChange walPlaysSpec)) walPlaysCard

/-- THE SECOND FORM's CARD OF 'countinghouselaw08.WalFrames'. -/
def walFramesUptoCard : Claim7 := { stood := { row := walFramesUptoRow, standIns := [], harness := (true, "b92ab730daa794f1e4bef7fbd9cdc2adadacdab6f948f0f99ea2b47e07fdeead"), looks := false }, kinds := [], alts := [], laidByText := true, laidKinds := [.data], laidTests := true, laidLooks := .later }
def WalFramesUptoCardSaid : Prop := Claim7.holds Tryd.pinned (.plain (OpenSpec.upto walFramesSpec)) walFramesUptoCard

/-- THE SECOND FORM's CARD OF 'countinghouselaw08.WalScans'. -/
def walScansUptoCard : Claim7 := { stood := { row := walScansUptoRow, standIns := [], harness := (true, "b92ab730daa794f1e4bef7fbd9cdc2adadacdab6f948f0f99ea2b47e07fdeead"), looks := false }, kinds := [], alts := [], laidByText := true, laidKinds := [.data], laidTests := true, laidLooks := .later }
def WalScansUptoCardSaid : Prop := Claim7.holds Tryd.pinned (.plain (OpenSpec.upto walScansSpec)) walScansUptoCard

/-- THE SECOND FORM's CARD OF 'countinghouselaw08.WalTorn'. -/
def walTornUptoCard : Claim7 := { stood := { row := walTornUptoRow, standIns := [], harness := (true, "b92ab730daa794f1e4bef7fbd9cdc2adadacdab6f948f0f99ea2b47e07fdeead"), looks := false }, kinds := [], alts := [], laidByText := true, laidKinds := [.data], laidTests := true, laidLooks := .later }
def WalTornUptoCardSaid : Prop := Claim7.holds Tryd.pinned (.plain (OpenSpec.upto walTornSpec)) walTornUptoCard

/-- THE SECOND FORM's CARD OF 'countinghouselaw08.WalOpens'. -/
def walOpensUptoCard : Claim7 := { stood := { row := walOpensUptoRow, standIns := [], harness := (true, "b92ab730daa794f1e4bef7fbd9cdc2adadacdab6f948f0f99ea2b47e07fdeead"), looks := false }, kinds := [], alts := [], laidByText := true, laidKinds := [.data], laidTests := true, laidLooks := .later }
def WalOpensUptoCardSaid : Prop := Claim7.holds Tryd.pinned (.plain (OpenSpec.upto walOpensSpec)) walOpensUptoCard

/-- THE SECOND FORM's CARD OF 'countinghouselaw08.WalNil'. -/
def walNilUptoCard : Claim7 := { stood := { row := walNilUptoRow, standIns := [], harness := (true, "b92ab730daa794f1e4bef7fbd9cdc2adadacdab6f948f0f99ea2b47e07fdeead"), looks := false }, kinds := [], alts := [], laidByText := true, laidKinds := [.data], laidTests := true, laidLooks := .later }
def WalNilUptoCardSaid : Prop := Claim7.holds Tryd.pinned (.plain (OpenSpec.upto walNilSpec)) walNilUptoCard

/-- THE SECOND FORM's CARD OF 'countinghouselaw08.WalKeeps'. -/
def walKeepsUptoCard : Claim7 := { stood := { row := walKeepsUptoRow, standIns := [], harness := (true, "b92ab730daa794f1e4bef7fbd9cdc2adadacdab6f948f0f99ea2b47e07fdeead"), looks := false }, kinds := [], alts := [], laidByText := true, laidKinds := [.data], laidTests := true, laidLooks := .later }
def WalKeepsUptoCardSaid : Prop := Claim7.holds Tryd.pinned (.plain (OpenSpec.upto walKeepsSpec)) walKeepsUptoCard

/-- THE SECOND FORM's CARD OF 'countinghouselaw08.WalPlays'. -/
def walPlaysUptoCard : Claim7 := { stood := { row := walPlaysUptoRow, standIns := [], harness := (true, "b92ab730daa794f1e4bef7fbd9cdc2adadacdab6f948f0f99ea2b47e07fdeead"), looks := false }, kinds := [], alts := [], laidByText := true, laidKinds := [.data], laidTests := true, laidLooks := .later }
def WalPlaysUptoCardSaid : Prop := Claim7.holds Tryd.pinned (.plain (OpenSpec.upto walPlaysSpec)) walPlaysUptoCard
end Rows
end Go.Proofs.YtponofojildbmaaDoor
