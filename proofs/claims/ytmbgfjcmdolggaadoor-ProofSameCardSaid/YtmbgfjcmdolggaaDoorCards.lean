/-
  DERIVED. GIVEN WITH THE SEED: THE CARDS: each row of YtmbgfjcmdolggaaDoorRows.lean that lists a variable, with what it lists TIED to the program's text (the seventh form; the later family's looks); each row that meets fmt, with fmt's text TOLD by the authors' own Lean function (tested against real Go, not proved from fmt's source: count such statements apart). THE CARD IS WHAT COUNTS. Prove the row's statement (the work); the ties are given (YtmbgfjcmdolggaaDoorTie.lean); close each card by the builder's one call (the guide's Derived/Test/ToyasCard.lean, 'card_holds'). Laid BY PROGRAM, IN A SANDBOX (cutbox-door.mjs). By AI agents, Wed Nov 11 2026. No macro, syntax, notation, axiom, sorry.
-/
import Derived.Test.YtmbgfjcmdolggaaDoorRows
import GoSem.ClaimSeven
namespace Go.Proofs.YtmbgfjcmdolggaaDoor
namespace Rows

/-- THE TIED CARD OF 'countinghouselaw10.ProofBack'. -/
def proofBackCard : Claim7 := { stood := { row := proofBackRow, standIns := [], harness := (true, "96e9053cb92f78ef3c3a5e62fefd4c17c7d4af8d3dac3f27d195c7c90a6fc71d"), looks := false }, kinds := [], alts := [], laidByText := true, laidKinds := [.data], laidTests := true, laidLooks := .later }
def ProofBackCardSaid : Prop := Claim7.holds Tryd.pinned (.plain (OpenSpec.ofChange proofBackSpec)) proofBackCard

/-- THE TIED CARD OF 'countinghouselaw10.ProofReads'. -/
def proofReadsCard : Claim7 := { stood := { row := proofReadsRow, standIns := [], harness := (true, "96e9053cb92f78ef3c3a5e62fefd4c17c7d4af8d3dac3f27d195c7c90a6fc71d"), looks := false }, kinds := [], alts := [], laidByText := true, laidKinds := [.data], laidTests := true, laidLooks := .later }
def ProofReadsCardSaid : Prop := Claim7.holds Tryd.pinned (.plain (OpenSpec.ofChange proofReadsSpec)) proofReadsCard

/-- THE TIED CARD OF 'countinghouselaw10.ProofTurned'. -/
def proofTurnedCard : Claim7 := { stood := { row := proofTurnedRow, standIns := [], harness := (true, "96e9053cb92f78ef3c3a5e62fefd4c17c7d4af8d3dac3f27d195c7c90a6fc71d"), looks := false }, kinds := [], alts := [], laidByText := true, laidKinds := [.data], laidTests := true, laidLooks := .later }
def ProofTurnedCardSaid : Prop := Claim7.holds Tryd.pinned (.plain (OpenSpec.ofChange proofTurnedSpec)) proofTurnedCard

/-- THE TIED CARD OF 'countinghouselaw10.ProofMany'. -/
def proofManyCard : Claim7 := { stood := { row := proofManyRow, standIns := [], harness := (true, "96e9053cb92f78ef3c3a5e62fefd4c17c7d4af8d3dac3f27d195c7c90a6fc71d"), looks := false }, kinds := [], alts := [], laidByText := true, laidKinds := [.data], laidTests := true, laidLooks := .later }
def ProofManyCardSaid : Prop := Claim7.holds Tryd.pinned (.plain (OpenSpec.ofChange proofManySpec)) proofManyCard

/-- THE TIED CARD OF 'countinghouselaw10.ProofSame'. -/
def proofSameCard : Claim7 := { stood := { row := proofSameRow, standIns := [], harness := (true, "96e9053cb92f78ef3c3a5e62fefd4c17c7d4af8d3dac3f27d195c7c90a6fc71d"), looks := false }, kinds := [], alts := [], laidByText := true, laidKinds := [.data], laidTests := true, laidLooks := .later }
def ProofSameCardSaid : Prop := Claim7.holds Tryd.pinned (.plain (OpenSpec.ofChange proofSameSpec)) proofSameCard

/-- THE TIED CARD OF 'countinghouselaw10.ProofOwn'. -/
def proofOwnCard : Claim7 := { stood := { row := proofOwnRow, standIns := [], harness := (true, "96e9053cb92f78ef3c3a5e62fefd4c17c7d4af8d3dac3f27d195c7c90a6fc71d"), looks := false }, kinds := [], alts := [], laidByText := true, laidKinds := [.data], laidTests := true, laidLooks := .later }
def ProofOwnCardSaid : Prop := Claim7.holds Tryd.pinned (.plain (OpenSpec.ofChange proofOwnSpec)) proofOwnCard

/-- THE TIED CARD OF 'countinghouselaw10.ProofBuilds'. -/
def proofBuildsCard : Claim7 := { stood := { row := proofBuildsRow, standIns := [], harness := (true, "96e9053cb92f78ef3c3a5e62fefd4c17c7d4af8d3dac3f27d195c7c90a6fc71d"), looks := false }, kinds := [], alts := [], laidByText := true, laidKinds := [.data], laidTests := true, laidLooks := .later }
def ProofBuildsCardSaid : Prop := Claim7.holds Tryd.pinned (.plain (OpenSpec.ofChange proofBuildsSpec)) proofBuildsCard

/-- THE TIED CARD OF 'countinghouselaw10.ProofDeep'. -/
def proofDeepCard : Claim7 := { stood := { row := proofDeepRow, standIns := [], harness := (true, "96e9053cb92f78ef3c3a5e62fefd4c17c7d4af8d3dac3f27d195c7c90a6fc71d"), looks := false }, kinds := [], alts := [], laidByText := true, laidKinds := [.data], laidTests := true, laidLooks := .later }
def ProofDeepCardSaid : Prop := Claim7.holds Tryd.pinned (.plain (OpenSpec.ofChange proofDeepSpec)) proofDeepCard

/-- THE SECOND FORM's CARD OF 'countinghouselaw10.ProofBack'. -/
def proofBackUptoCard : Claim7 := { stood := { row := proofBackUptoRow, standIns := [], harness := (true, "96e9053cb92f78ef3c3a5e62fefd4c17c7d4af8d3dac3f27d195c7c90a6fc71d"), looks := false }, kinds := [], alts := [], laidByText := true, laidKinds := [.data], laidTests := true, laidLooks := .later }
def ProofBackUptoCardSaid : Prop := Claim7.holds Tryd.pinned (.plain (OpenSpec.upto proofBackSpec)) proofBackUptoCard

/-- THE SECOND FORM's CARD OF 'countinghouselaw10.ProofReads'. -/
def proofReadsUptoCard : Claim7 := { stood := { row := proofReadsUptoRow, standIns := [], harness := (true, "96e9053cb92f78ef3c3a5e62fefd4c17c7d4af8d3dac3f27d195c7c90a6fc71d"), looks := false }, kinds := [], alts := [], laidByText := true, laidKinds := [.data], laidTests := true, laidLooks := .later }
def ProofReadsUptoCardSaid : Prop := Claim7.holds Tryd.pinned (.plain (OpenSpec.upto proofReadsSpec)) proofReadsUptoCard

/-- THE SECOND FORM's CARD OF 'countinghouselaw10.ProofTurned'. -/
def proofTurnedUptoCard : Claim7 := { stood := { row := proofTurnedUptoRow, standIns := [], harness := (true, "96e9053cb92f78ef3c3a5e62fefd4c17c7d4af8d3dac3f27d195c7c90a6fc71d"), looks := false }, kinds := [], alts := [], laidByText := true, laidKinds := [.data], laidTests := true, laidLooks := .later }
def ProofTurnedUptoCardSaid : Prop := Claim7.holds Tryd.pinned (.plain (OpenSpec.upto proofTurnedSpec)) proofTurnedUptoCard

/-- THE SECOND FORM's CARD OF 'countinghouselaw10.ProofMany'. -/
def proofManyUptoCard : Claim7 := { stood := { row := proofManyUptoRow, standIns := [], harness := (true, "96e9053cb92f78ef3c3a5e62fefd4c17c7d4af8d3dac3f27d195c7c90a6fc71d"), looks := false }, kinds := [], alts := [], laidByText := true, laidKinds := [.data], laidTests := true, laidLooks := .later }
def ProofManyUptoCardSaid : Prop := Claim7.holds Tryd.pinned (.plain (OpenSpec.upto proofManySpec)) proofManyUptoCard

/-- THE SECOND FORM's CARD OF 'countinghouselaw10.ProofSame'. -/
def proofSameUptoCard : Claim7 := { stood := { row := proofSameUptoRow, standIns := [], harness := (true, "96e9053cb92f78ef3c3a5e62fefd4c17c7d4af8d3dac3f27d195c7c90a6fc71d"), looks := false }, kinds := [], alts := [], laidByText := true, laidKinds := [.data], laidTests := true, laidLooks := .later }
def ProofSameUptoCardSaid : Prop := Claim7.holds Tryd.pinned (.plain (OpenSpec.upto proofSameSpec)) proofSameUptoCard

/-- THE SECOND FORM's CARD OF 'countinghouselaw10.ProofOwn'. -/
def proofOwnUptoCard : Claim7 := { stood := { row := proofOwnUptoRow, standIns := [], harness := (true, "96e9053cb92f78ef3c3a5e62fefd4c17c7d4af8d3dac3f27d195c7c90a6fc71d"), looks := false }, kinds := [], alts := [], laidByText := true, laidKinds := [.data], laidTests := true, laidLooks := .later }
def ProofOwnUptoCardSaid : Prop := Claim7.holds Tryd.pinned (.plain (OpenSpec.upto proofOwnSpec)) proofOwnUptoCard

/-- THE SECOND FORM's CARD OF 'countinghouselaw10.ProofBuilds'. -/
def proofBuildsUptoCard : Claim7 := { stood := { row := proofBuildsUptoRow, standIns := [], harness := (true, "96e9053cb92f78ef3c3a5e62fefd4c17c7d4af8d3dac3f27d195c7c90a6fc71d"), looks := false }, kinds := [], alts := [], laidByText := true, laidKinds := [.data], laidTests := true, laidLooks := .later }
def ProofBuildsUptoCardSaid : Prop := Claim7.holds Tryd.pinned (.plain (OpenSpec.upto proofBuildsSpec)) proofBuildsUptoCard

/-- THE SECOND FORM's CARD OF 'countinghouselaw10.ProofDeep'. -/
def proofDeepUptoCard : Claim7 := { stood := { row := proofDeepUptoRow, standIns := [], harness := (true, "96e9053cb92f78ef3c3a5e62fefd4c17c7d4af8d3dac3f27d195c7c90a6fc71d"), looks := false }, kinds := [], alts := [], laidByText := true, laidKinds := [.data], laidTests := true, laidLooks := .later }
def ProofDeepUptoCardSaid : Prop := Claim7.holds Tryd.pinned (.plain (OpenSpec.upto proofDeepSpec)) proofDeepUptoCard
end Rows
end Go.Proofs.YtmbgfjcmdolggaaDoor
