/-
  DERIVED. GIVEN WITH THE SEED: THE CARDS: each row of YtcfjciencggflaaDoorRows.lean that lists a variable, with what it lists TIED to the program's text (the seventh form; the later family's looks); each row that meets fmt, with fmt's text TOLD by the authors' own Lean function (tested against real Go, not proved from fmt's source: count such statements apart). THE CARD IS WHAT COUNTS. Prove the row's statement (the work); the ties are given (YtcfjciencggflaaDoorTie.lean); close each card by the builder's one call (the guide's Derived/Test/ToyasCard.lean, 'card_holds'). Laid BY PROGRAM, IN A SANDBOX (cutbox-door.mjs). By AI agents, Wed Nov 11 2026. No macro, syntax, notation, axiom, sorry.
-/
import Derived.Test.YtcfjciencggflaaDoorRows
import GoSem.ClaimSeven
namespace Go.Proofs.YtcfjciencggflaaDoor
namespace Rows

/-- THE TIED CARD OF 'countinghouselaw11.VerifyAny'. -/
def verifyAnyCard : Claim7 := { stood := { row := verifyAnyRow, standIns := [], harness := (true, "1b360305a05b3bf03a62531d3bbae8de28396a47b15b01a9056580a0da5f09f4"), looks := false }, kinds := [], alts := [], laidByText := true, laidKinds := [.data], laidTests := true, laidLooks := .later }
def VerifyAnyCardSaid : Prop := Claim7.holds Tryd.pinned (.plain (OpenSpec.ofChange verifyAnySpec)) verifyAnyCard

/-- THE TIED CARD OF 'countinghouselaw11.VerifySteps'. -/
def verifyStepsCard : Claim7 := { stood := { row := verifyStepsRow, standIns := [], harness := (true, "1b360305a05b3bf03a62531d3bbae8de28396a47b15b01a9056580a0da5f09f4"), looks := false }, kinds := [], alts := [], laidByText := true, laidKinds := [.data], laidTests := true, laidLooks := .later }
def VerifyStepsCardSaid : Prop := Claim7.holds Tryd.pinned (.plain (OpenSpec.ofChange verifyStepsSpec)) verifyStepsCard

/-- THE TIED CARD OF 'countinghouselaw11.VerifyClash'. -/
def verifyClashCard : Claim7 := { stood := { row := verifyClashRow, standIns := [], harness := (true, "1b360305a05b3bf03a62531d3bbae8de28396a47b15b01a9056580a0da5f09f4"), looks := false }, kinds := [], alts := [], laidByText := true, laidKinds := [.data], laidTests := true, laidLooks := .later }
def VerifyClashCardSaid : Prop := Claim7.holds Tryd.pinned (.plain (OpenSpec.ofChange verifyClashSpec)) verifyClashCard

/-- THE TIED CARD OF 'countinghouselaw11.VerifyShows'. -/
def verifyShowsCard : Claim7 := { stood := { row := verifyShowsRow, standIns := [], harness := (true, "1b360305a05b3bf03a62531d3bbae8de28396a47b15b01a9056580a0da5f09f4"), looks := false }, kinds := [], alts := [], laidByText := true, laidKinds := [.data], laidTests := true, laidLooks := .later }
def VerifyShowsCardSaid : Prop := Claim7.holds Tryd.pinned (.plain (OpenSpec.ofChange verifyShowsSpec)) verifyShowsCard

/-- THE TIED CARD OF 'countinghouselaw11.VerifyTurned'. -/
def verifyTurnedCard : Claim7 := { stood := { row := verifyTurnedRow, standIns := [], harness := (true, "1b360305a05b3bf03a62531d3bbae8de28396a47b15b01a9056580a0da5f09f4"), looks := false }, kinds := [], alts := [], laidByText := true, laidKinds := [.data], laidTests := true, laidLooks := .later }
def VerifyTurnedCardSaid : Prop := Claim7.holds Tryd.pinned (.plain (OpenSpec.ofChange verifyTurnedSpec)) verifyTurnedCard

/-- THE TIED CARD OF 'countinghouselaw11.VerifyOther'. -/
def verifyOtherCard : Claim7 := { stood := { row := verifyOtherRow, standIns := [], harness := (true, "1b360305a05b3bf03a62531d3bbae8de28396a47b15b01a9056580a0da5f09f4"), looks := false }, kinds := [], alts := [], laidByText := true, laidKinds := [.data], laidTests := true, laidLooks := .later }
def VerifyOtherCardSaid : Prop := Claim7.holds Tryd.pinned (.plain (OpenSpec.ofChange verifyOtherSpec)) verifyOtherCard

/-- THE SECOND FORM's CARD OF 'countinghouselaw11.VerifyAny'. -/
def verifyAnyUptoCard : Claim7 := { stood := { row := verifyAnyUptoRow, standIns := [], harness := (true, "1b360305a05b3bf03a62531d3bbae8de28396a47b15b01a9056580a0da5f09f4"), looks := false }, kinds := [], alts := [], laidByText := true, laidKinds := [.data], laidTests := true, laidLooks := .later }
def VerifyAnyUptoCardSaid : Prop := Claim7.holds Tryd.pinned (.plain (OpenSpec.upto verifyAnySpec)) verifyAnyUptoCard

/-- THE SECOND FORM's CARD OF 'countinghouselaw11.VerifySteps'. -/
def verifyStepsUptoCard : Claim7 := { stood := { row := verifyStepsUptoRow, standIns := [], harness := (true, "1b360305a05b3bf03a62531d3bbae8de28396a47b15b01a9056580a0da5f09f4"), looks := false }, kinds := [], alts := [], laidByText := true, laidKinds := [.data], laidTests := true, laidLooks := .later }
def VerifyStepsUptoCardSaid : Prop := Claim7.holds Tryd.pinned (.plain (OpenSpec.upto verifyStepsSpec)) verifyStepsUptoCard

/-- THE SECOND FORM's CARD OF 'countinghouselaw11.VerifyClash'. -/
def verifyClashUptoCard : Claim7 := { stood := { row := verifyClashUptoRow, standIns := [], harness := (true, "1b360305a05b3bf03a62531d3bbae8de28396a47b15b01a9056580a0da5f09f4"), looks := false }, kinds := [], alts := [], laidByText := true, laidKinds := [.data], laidTests := true, laidLooks := .later }
def VerifyClashUptoCardSaid : Prop := Claim7.holds Tryd.pinned (.plain (OpenSpec.upto verifyClashSpec)) verifyClashUptoCard

/-- THE SECOND FORM's CARD OF 'countinghouselaw11.VerifyShows'. -/
def verifyShowsUptoCard : Claim7 := { stood := { row := verifyShowsUptoRow, standIns := [], harness := (true, "1b360305a05b3bf03a62531d3bbae8de28396a47b15b01a9056580a0da5f09f4"), looks := false }, kinds := [], alts := [], laidByText := true, laidKinds := [.data], laidTests := true, laidLooks := .later }
def VerifyShowsUptoCardSaid : Prop := Claim7.holds Tryd.pinned (.plain (OpenSpec.upto verifyShowsSpec)) verifyShowsUptoCard

/-- THE SECOND FORM's CARD OF 'countinghouselaw11.VerifyTurned'. -/
def verifyTurnedUptoCard : Claim7 := { stood := { row := verifyTurnedUptoRow, standIns := [], harness := (true, "1b360305a05b3bf03a62531d3bbae8de28396a47b15b01a9056580a0da5f09f4"), looks := false }, kinds := [], alts := [], laidByText := true, laidKinds := [.data], laidTests := true, laidLooks := .later }
def VerifyTurnedUptoCardSaid : Prop := Claim7.holds Tryd.pinned (.plain (OpenSpec.upto verifyTurnedSpec)) verifyTurnedUptoCard

/-- THE SECOND FORM's CARD OF 'countinghouselaw11.VerifyOther'. -/
def verifyOtherUptoCard : Claim7 := { stood := { row := verifyOtherUptoRow, standIns := [], harness := (true, "1b360305a05b3bf03a62531d3bbae8de28396a47b15b01a9056580a0da5f09f4"), looks := false }, kinds := [], alts := [], laidByText := true, laidKinds := [.data], laidTests := true, laidLooks := .later }
def VerifyOtherUptoCardSaid : Prop := Claim7.holds Tryd.pinned (.plain (OpenSpec.upto verifyOtherSpec)) verifyOtherUptoCard
end Rows
end Go.Proofs.YtcfjciencggflaaDoor
