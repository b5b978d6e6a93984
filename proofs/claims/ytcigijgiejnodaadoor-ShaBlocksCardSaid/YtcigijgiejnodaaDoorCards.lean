/-
  DERIVED. GIVEN WITH THE SEED: THE CARDS: each row of YtcigijgiejnodaaDoorRows.lean that lists a variable, with what it lists TIED to the program's text (the seventh form; the later family's looks); each row that meets fmt, with fmt's text TOLD by the authors' own Lean function (tested against real Go, not proved from fmt's source: count such statements apart). THE CARD IS WHAT COUNTS. Prove the row's statement (the work); the ties are given (YtcigijgiejnodaaDoorTie.lean); close each card by the builder's one call (the guide's Derived/Test/ToyasCard.lean, 'card_holds'). Laid BY PROGRAM, IN A SANDBOX (cutbox-door.mjs). By AI agents, Wed Nov 11 2026. No macro, syntax, notation, axiom, sorry.
-/
import Derived.Test.YtcigijgiejnodaaDoorRows
import GoSem.ClaimSeven
namespace Go.Proofs.YtcigijgiejnodaaDoor
namespace Rows

/-- THE TIED CARD OF 'countinghouselaw03.ShaSums'. -/
def shaSumsCard : Claim7 := { stood := { row := shaSumsRow, standIns := [], harness := (true, "7792b9d0ad3f44de4065034d34ba3e5b4d8d148603c6d93b2f4699f4f070f3e9"), looks := false }, kinds := [], alts := [], laidByText := true, laidKinds := [.data], laidTests := true, laidLooks := .later }
def ShaSumsCardSaid : Prop := Claim7.holds Tryd.pinned (.plain (OpenSpec.ofChange shaSumsSpec)) shaSumsCard

/-- THE TIED CARD OF 'countinghouselaw03.ShaLengths'. -/
def shaLengthsCard : Claim7 := { stood := { row := shaLengthsRow, standIns := [], harness := (true, "7792b9d0ad3f44de4065034d34ba3e5b4d8d148603c6d93b2f4699f4f070f3e9"), looks := false }, kinds := [], alts := [], laidByText := true, laidKinds := [.data], laidTests := true, laidLooks := .later }
def ShaLengthsCardSaid : Prop := Claim7.holds Tryd.pinned (.plain (OpenSpec.ofChange shaLengthsSpec)) shaLengthsCard

/-- THE TIED CARD OF 'countinghouselaw03.ShaOwn'. -/
def shaOwnCard : Claim7 := { stood := { row := shaOwnRow, standIns := [], harness := (true, "7792b9d0ad3f44de4065034d34ba3e5b4d8d148603c6d93b2f4699f4f070f3e9"), looks := false }, kinds := [], alts := [], laidByText := true, laidKinds := [.data], laidTests := true, laidLooks := .later }
def ShaOwnCardSaid : Prop := Claim7.holds Tryd.pinned (.plain (OpenSpec.ofChange shaOwnSpec)) shaOwnCard

/-- THE TIED CARD OF 'countinghouselaw03.ShaBlocks'. -/
def shaBlocksCard : Claim7 := { stood := { row := shaBlocksRow, standIns := [], harness := (true, "7792b9d0ad3f44de4065034d34ba3e5b4d8d148603c6d93b2f4699f4f070f3e9"), looks := false }, kinds := [], alts := [], laidByText := true, laidKinds := [.data], laidTests := true, laidLooks := .later }
def ShaBlocksCardSaid : Prop := Claim7.holds Tryd.pinned (.plain (OpenSpec.ofChange shaBlocksSpec)) shaBlocksCard

/-- THE TIED CARD OF 'countinghouselaw03.ShaBits'. -/
def shaBitsCard : Claim7 := { stood := { row := shaBitsRow, standIns := [], harness := (true, "7792b9d0ad3f44de4065034d34ba3e5b4d8d148603c6d93b2f4699f4f070f3e9"), looks := false }, kinds := [], alts := [], laidByText := true, laidKinds := [.data], laidTests := true, laidLooks := .later }
def ShaBitsCardSaid : Prop := Claim7.holds Tryd.pinned (.plain (OpenSpec.ofChange shaBitsSpec)) shaBitsCard

/-- THE SECOND FORM's CARD OF 'countinghouselaw03.ShaSums'. -/
def shaSumsUptoCard : Claim7 := { stood := { row := shaSumsUptoRow, standIns := [], harness := (true, "7792b9d0ad3f44de4065034d34ba3e5b4d8d148603c6d93b2f4699f4f070f3e9"), looks := false }, kinds := [], alts := [], laidByText := true, laidKinds := [.data], laidTests := true, laidLooks := .later }
def ShaSumsUptoCardSaid : Prop := Claim7.holds Tryd.pinned (.plain (OpenSpec.upto shaSumsSpec)) shaSumsUptoCard

/-- THE SECOND FORM's CARD OF 'countinghouselaw03.ShaLengths'. -/
def shaLengthsUptoCard : Claim7 := { stood := { row := shaLengthsUptoRow, standIns := [], harness := (true, "7792b9d0ad3f44de4065034d34ba3e5b4d8d148603c6d93b2f4699f4f070f3e9"), looks := false }, kinds := [], alts := [], laidByText := true, laidKinds := [.data], laidTests := true, laidLooks := .later }
def ShaLengthsUptoCardSaid : Prop := Claim7.holds Tryd.pinned (.plain (OpenSpec.upto shaLengthsSpec)) shaLengthsUptoCard

/-- THE SECOND FORM's CARD OF 'countinghouselaw03.ShaOwn'. -/
def shaOwnUptoCard : Claim7 := { stood := { row := shaOwnUptoRow, standIns := [], harness := (true, "7792b9d0ad3f44de4065034d34ba3e5b4d8d148603c6d93b2f4699f4f070f3e9"), looks := false }, kinds := [], alts := [], laidByText := true, laidKinds := [.data], laidTests := true, laidLooks := .later }
def ShaOwnUptoCardSaid : Prop := Claim7.holds Tryd.pinned (.plain (OpenSpec.upto shaOwnSpec)) shaOwnUptoCard

/-- THE SECOND FORM's CARD OF 'countinghouselaw03.ShaBlocks'. -/
def shaBlocksUptoCard : Claim7 := { stood := { row := shaBlocksUptoRow, standIns := [], harness := (true, "7792b9d0ad3f44de4065034d34ba3e5b4d8d148603c6d93b2f4699f4f070f3e9"), looks := false }, kinds := [], alts := [], laidByText := true, laidKinds := [.data], laidTests := true, laidLooks := .later }
def ShaBlocksUptoCardSaid : Prop := Claim7.holds Tryd.pinned (.plain (OpenSpec.upto shaBlocksSpec)) shaBlocksUptoCard

/-- THE SECOND FORM's CARD OF 'countinghouselaw03.ShaBits'. -/
def shaBitsUptoCard : Claim7 := { stood := { row := shaBitsUptoRow, standIns := [], harness := (true, "7792b9d0ad3f44de4065034d34ba3e5b4d8d148603c6d93b2f4699f4f070f3e9"), looks := false }, kinds := [], alts := [], laidByText := true, laidKinds := [.data], laidTests := true, laidLooks := .later }
def ShaBitsUptoCardSaid : Prop := Claim7.holds Tryd.pinned (.plain (OpenSpec.upto shaBitsSpec)) shaBitsUptoCard
end Rows
end Go.Proofs.YtcigijgiejnodaaDoor
