/-
  NARROWER THAN 'FOR EVERY INPUT', by the rows' own cells (each row's printed sentence says how): ProofBack: laid · ProofReads: laid · ProofTurned: laid · ProofMany: laid · ProofSame: laid · ProofOwn: laid · ProofBuilds: laid · ProofDeep: laid.
  DERIVED. THE GIVEN ROWS OF THIS SEAT. 8 by the template 'for every input the law returns true; each argument reads behind the call as it read before'; 0 by the template 'total and deterministic' (their statements: YtmbgfjcmdolggaaDoorTotals.lean).
  GIVEN WITH THE SEED: the statements are not yours to turn. If you find one false, say at which input.
  Laid BY PROGRAM, IN A SANDBOX (cutbox-rows.mjs): the forced cells as the released guide's own fill.sh prints them over the translation 9b5a04263b6db23e… (all of the seat's roots in one cut). By AI agents, Wed Nov 11 2026. No macro, syntax, notation, axiom, sorry.
-/
import Derived.Test.YtmbgfjcmdolggaaDoorChecked
import GoSem.Claim
import GoSem.ClaimJoined
import GoSem.ClaimMapViews
import Derived.JoinedTies
import Derived.KernelRfl
namespace Go.Proofs.YtmbgfjcmdolggaaDoor
/- THE CELL 'sum', in the pinned program and in every row, IS THE sha256 OF THE DUMP (.gsa) THAT YtmbgfjcmdolggaaDoorProg.lean LOADS. Nothing in Lean hashes anything: it is a label: what it is worth is what the hold of that sum in a sandbox is worth. -/
noncomputable def Tryd.pinned : Pinned := { name := "ytmbgfjcmdolggaadoor", sum := "9b5a04263b6db23eb9bb1d3f8e0cb1509c5ea0eead433198bcd8b61a277869fa", checked := Tryd.checked }
namespace Rows
def none {H : Type} : Left H := { results := [], args := [] }

/- WHAT THE LISTED PACKAGE-LEVEL VARIABLES READ AS WHEN THE CALL BEGINS. Each datum BY PROGRAM (the guide's laid-datum.mjs) off the statement by which the dump's own 'gosem.cut.vars' lays the variable. In a bare row this is a premise. The card (YtmbgfjcmdolggaaDoorCards.lean) ties it to the program's text. -/
def laid_countinghouse_sha_round {H : Type} : DataW H := .agg [.lit (.int .u32 1116352408), .lit (.int .u32 1899447441), .lit (.int .u32 3049323471), .lit (.int .u32 3921009573), .lit (.int .u32 961987163), .lit (.int .u32 1508970993), .lit (.int .u32 2453635748), .lit (.int .u32 2870763221), .lit (.int .u32 3624381080), .lit (.int .u32 310598401), .lit (.int .u32 607225278), .lit (.int .u32 1426881987), .lit (.int .u32 1925078388), .lit (.int .u32 2162078206), .lit (.int .u32 2614888103), .lit (.int .u32 3248222580), .lit (.int .u32 3835390401), .lit (.int .u32 4022224774), .lit (.int .u32 264347078), .lit (.int .u32 604807628), .lit (.int .u32 770255983), .lit (.int .u32 1249150122), .lit (.int .u32 1555081692), .lit (.int .u32 1996064986), .lit (.int .u32 2554220882), .lit (.int .u32 2821834349), .lit (.int .u32 2952996808), .lit (.int .u32 3210313671), .lit (.int .u32 3336571891), .lit (.int .u32 3584528711), .lit (.int .u32 113926993), .lit (.int .u32 338241895), .lit (.int .u32 666307205), .lit (.int .u32 773529912), .lit (.int .u32 1294757372), .lit (.int .u32 1396182291), .lit (.int .u32 1695183700), .lit (.int .u32 1986661051), .lit (.int .u32 2177026350), .lit (.int .u32 2456956037), .lit (.int .u32 2730485921), .lit (.int .u32 2820302411), .lit (.int .u32 3259730800), .lit (.int .u32 3345764771), .lit (.int .u32 3516065817), .lit (.int .u32 3600352804), .lit (.int .u32 4094571909), .lit (.int .u32 275423344), .lit (.int .u32 430227734), .lit (.int .u32 506948616), .lit (.int .u32 659060556), .lit (.int .u32 883997877), .lit (.int .u32 958139571), .lit (.int .u32 1322822218), .lit (.int .u32 1537002063), .lit (.int .u32 1747873779), .lit (.int .u32 1955562222), .lit (.int .u32 2024104815), .lit (.int .u32 2227730452), .lit (.int .u32 2361852424), .lit (.int .u32 2428436474), .lit (.int .u32 2756734187), .lit (.int .u32 3204031479), .lit (.int .u32 3329325298)]

/-- 'countinghouselaw10.ProofBack': WHATEVER THE INPUT: true; the input reads as it did. -/
def proofBackSpec : ChangeSpec := { name := "proofBack", fn := fun _ => fun
  | [d] => { results := [.lit (.bool true)], args := [d] }
  | _ => none }
def proofBackRow : OpenClaim := { program := "ytmbgfjcmdolggaadoor", sum := "9b5a04263b6db23eb9bb1d3f8e0cb1509c5ea0eead433198bcd8b61a277869fa", func := "countinghouse/countinghouselaw10.ProofBack", spec := "proofBack", inPlace := ["internal/abi.NoEscape"], named := ["countinghouse/sha.round"], apart := false, laid := [("countinghouse/sha.round", laid_countinghouse_sha_round)] }
def ProofBackSaid : Prop := proofBackRow.holds Tryd.pinned (OpenSpec.ofChange proofBackSpec)

/-- ITS FALSE NEIGHBOUR: 'it returns false'. Refute it at one input. -/
def proofBackWrong : ChangeSpec := { name := "proofBack", fn := fun _ => fun
  | [d] => { results := [.lit (.bool false)], args := [d] }
  | _ => none }
def ProofBackWrongFalsely : Prop := proofBackRow.holds Tryd.pinned (OpenSpec.ofChange proofBackWrong)

/-- 'countinghouselaw10.ProofReads': WHATEVER THE INPUT: true; the input reads as it did. -/
def proofReadsSpec : ChangeSpec := { name := "proofReads", fn := fun _ => fun
  | [d] => { results := [.lit (.bool true)], args := [d] }
  | _ => none }
def proofReadsRow : OpenClaim := { program := "ytmbgfjcmdolggaadoor", sum := "9b5a04263b6db23eb9bb1d3f8e0cb1509c5ea0eead433198bcd8b61a277869fa", func := "countinghouse/countinghouselaw10.ProofReads", spec := "proofReads", inPlace := ["internal/abi.NoEscape"], named := ["countinghouse/sha.round"], apart := false, laid := [("countinghouse/sha.round", laid_countinghouse_sha_round)] }
def ProofReadsSaid : Prop := proofReadsRow.holds Tryd.pinned (OpenSpec.ofChange proofReadsSpec)

/-- ITS FALSE NEIGHBOUR: 'it returns false'. Refute it at one input. -/
def proofReadsWrong : ChangeSpec := { name := "proofReads", fn := fun _ => fun
  | [d] => { results := [.lit (.bool false)], args := [d] }
  | _ => none }
def ProofReadsWrongFalsely : Prop := proofReadsRow.holds Tryd.pinned (OpenSpec.ofChange proofReadsWrong)

/-- 'countinghouselaw10.ProofTurned': WHATEVER THE INPUT: true; the input reads as it did. -/
def proofTurnedSpec : ChangeSpec := { name := "proofTurned", fn := fun _ => fun
  | [d1, d2, d3, d4, d5] => { results := [.lit (.bool true)], args := [d1, d2, d3, d4, d5] }
  | _ => none }
def proofTurnedRow : OpenClaim := { program := "ytmbgfjcmdolggaadoor", sum := "9b5a04263b6db23eb9bb1d3f8e0cb1509c5ea0eead433198bcd8b61a277869fa", func := "countinghouse/countinghouselaw10.ProofTurned", spec := "proofTurned", inPlace := ["internal/abi.NoEscape"], named := ["countinghouse/sha.round"], apart := false, laid := [("countinghouse/sha.round", laid_countinghouse_sha_round)] }
def ProofTurnedSaid : Prop := proofTurnedRow.holds Tryd.pinned (OpenSpec.ofChange proofTurnedSpec)

/-- ITS FALSE NEIGHBOUR: 'it returns false'. Refute it at one input. -/
def proofTurnedWrong : ChangeSpec := { name := "proofTurned", fn := fun _ => fun
  | [d1, d2, d3, d4, d5] => { results := [.lit (.bool false)], args := [d1, d2, d3, d4, d5] }
  | _ => none }
def ProofTurnedWrongFalsely : Prop := proofTurnedRow.holds Tryd.pinned (OpenSpec.ofChange proofTurnedWrong)

/-- 'countinghouselaw10.ProofMany': WHATEVER THE INPUT: true; the input reads as it did. -/
def proofManySpec : ChangeSpec := { name := "proofMany", fn := fun _ => fun
  | [d1, d2] => { results := [.lit (.bool true)], args := [d1, d2] }
  | _ => none }
def proofManyRow : OpenClaim := { program := "ytmbgfjcmdolggaadoor", sum := "9b5a04263b6db23eb9bb1d3f8e0cb1509c5ea0eead433198bcd8b61a277869fa", func := "countinghouse/countinghouselaw10.ProofMany", spec := "proofMany", inPlace := ["internal/abi.NoEscape"], named := ["countinghouse/sha.round"], apart := false, laid := [("countinghouse/sha.round", laid_countinghouse_sha_round)] }
def ProofManySaid : Prop := proofManyRow.holds Tryd.pinned (OpenSpec.ofChange proofManySpec)

/-- ITS FALSE NEIGHBOUR: 'it returns false'. Refute it at one input. -/
def proofManyWrong : ChangeSpec := { name := "proofMany", fn := fun _ => fun
  | [d1, d2] => { results := [.lit (.bool false)], args := [d1, d2] }
  | _ => none }
def ProofManyWrongFalsely : Prop := proofManyRow.holds Tryd.pinned (OpenSpec.ofChange proofManyWrong)

/-- 'countinghouselaw10.ProofSame': WHATEVER THE INPUT: true; the input reads as it did. -/
def proofSameSpec : ChangeSpec := { name := "proofSame", fn := fun _ => fun
  | [d1, d2, d3] => { results := [.lit (.bool true)], args := [d1, d2, d3] }
  | _ => none }
def proofSameRow : OpenClaim := { program := "ytmbgfjcmdolggaadoor", sum := "9b5a04263b6db23eb9bb1d3f8e0cb1509c5ea0eead433198bcd8b61a277869fa", func := "countinghouse/countinghouselaw10.ProofSame", spec := "proofSame", inPlace := ["internal/abi.NoEscape"], named := ["countinghouse/sha.round"], apart := false, laid := [("countinghouse/sha.round", laid_countinghouse_sha_round)] }
def ProofSameSaid : Prop := proofSameRow.holds Tryd.pinned (OpenSpec.ofChange proofSameSpec)

/-- ITS FALSE NEIGHBOUR: 'it returns false'. Refute it at one input. -/
def proofSameWrong : ChangeSpec := { name := "proofSame", fn := fun _ => fun
  | [d1, d2, d3] => { results := [.lit (.bool false)], args := [d1, d2, d3] }
  | _ => none }
def ProofSameWrongFalsely : Prop := proofSameRow.holds Tryd.pinned (OpenSpec.ofChange proofSameWrong)

/-- 'countinghouselaw10.ProofOwn': WHATEVER THE INPUT: true; the input reads as it did. -/
def proofOwnSpec : ChangeSpec := { name := "proofOwn", fn := fun _ => fun
  | [d1, d2] => { results := [.lit (.bool true)], args := [d1, d2] }
  | _ => none }
def proofOwnRow : OpenClaim := { program := "ytmbgfjcmdolggaadoor", sum := "9b5a04263b6db23eb9bb1d3f8e0cb1509c5ea0eead433198bcd8b61a277869fa", func := "countinghouse/countinghouselaw10.ProofOwn", spec := "proofOwn", inPlace := ["internal/abi.NoEscape"], recurses := true, named := ["countinghouse/sha.round"], apart := false, laid := [("countinghouse/sha.round", laid_countinghouse_sha_round)] }
def ProofOwnSaid : Prop := proofOwnRow.holds Tryd.pinned (OpenSpec.ofChange proofOwnSpec)

/-- ITS FALSE NEIGHBOUR: 'it returns false'. Refute it at one input. -/
def proofOwnWrong : ChangeSpec := { name := "proofOwn", fn := fun _ => fun
  | [d1, d2] => { results := [.lit (.bool false)], args := [d1, d2] }
  | _ => none }
def ProofOwnWrongFalsely : Prop := proofOwnRow.holds Tryd.pinned (OpenSpec.ofChange proofOwnWrong)

/-- 'countinghouselaw10.ProofBuilds': WHATEVER THE INPUT: true; the input reads as it did. -/
def proofBuildsSpec : ChangeSpec := { name := "proofBuilds", fn := fun _ => fun
  | [d1, d2, d3] => { results := [.lit (.bool true)], args := [d1, d2, d3] }
  | _ => none }
def proofBuildsRow : OpenClaim := { program := "ytmbgfjcmdolggaadoor", sum := "9b5a04263b6db23eb9bb1d3f8e0cb1509c5ea0eead433198bcd8b61a277869fa", func := "countinghouse/countinghouselaw10.ProofBuilds", spec := "proofBuilds", inPlace := ["internal/abi.NoEscape"], recurses := true, named := ["countinghouse/sha.round"], apart := false, laid := [("countinghouse/sha.round", laid_countinghouse_sha_round)] }
def ProofBuildsSaid : Prop := proofBuildsRow.holds Tryd.pinned (OpenSpec.ofChange proofBuildsSpec)

/-- ITS FALSE NEIGHBOUR: 'it returns false'. Refute it at one input. -/
def proofBuildsWrong : ChangeSpec := { name := "proofBuilds", fn := fun _ => fun
  | [d1, d2, d3] => { results := [.lit (.bool false)], args := [d1, d2, d3] }
  | _ => none }
def ProofBuildsWrongFalsely : Prop := proofBuildsRow.holds Tryd.pinned (OpenSpec.ofChange proofBuildsWrong)

/-- 'countinghouselaw10.ProofDeep': WHATEVER THE INPUT: true; the input reads as it did. -/
def proofDeepSpec : ChangeSpec := { name := "proofDeep", fn := fun _ => fun
  | [d1, d2] => { results := [.lit (.bool true)], args := [d1, d2] }
  | _ => none }
def proofDeepRow : OpenClaim := { program := "ytmbgfjcmdolggaadoor", sum := "9b5a04263b6db23eb9bb1d3f8e0cb1509c5ea0eead433198bcd8b61a277869fa", func := "countinghouse/countinghouselaw10.ProofDeep", spec := "proofDeep", inPlace := ["internal/abi.NoEscape"], recurses := true, named := ["countinghouse/sha.round"], apart := false, laid := [("countinghouse/sha.round", laid_countinghouse_sha_round)] }
def ProofDeepSaid : Prop := proofDeepRow.holds Tryd.pinned (OpenSpec.ofChange proofDeepSpec)

/-- ITS FALSE NEIGHBOUR: 'it returns false'. Refute it at one input. -/
def proofDeepWrong : ChangeSpec := { name := "proofDeep", fn := fun _ => fun
  | [d1, d2] => { results := [.lit (.bool false)], args := [d1, d2] }
  | _ => none }
def ProofDeepWrongFalsely : Prop := proofDeepRow.holds Tryd.pinned (OpenSpec.ofChange proofDeepWrong)

/- THE SECOND FORM. 'bulk': how many values and letters a reading holds, each counted each time it is reached (what is shared counts as often as it is met; a slice's spare places count too). A statement '..UptoSaid' is the law's where the arguments, and the package variables that the reading takes, are together of bulk at most 1048576: NARROWER than '..Said'. Prove '..Said' where nothing that the law and all that it calls make is longer than what came in: it says more and counts as full. Else prove '..UptoSaid'. A law counts once. -/
mutual
def uptoBulk {H : Type} : DataW H → Nat
  | .lit (.string bytes) => bytes.length + 1
  | .lit _ => 1
  | .nil => 1
  | .ptr d => uptoBulk d + 1
  | .slice elems spare => uptoBulkAll elems + uptoBulkAll spare + 1
  | .agg parts => uptoBulkAll parts + 1
  | .iface _ d => uptoBulk d + 1
  | .map entries => uptoBulkEntries entries + 1
  | .held _ => 1
def uptoBulkAll {H : Type} : List (DataW H) → Nat
  | [] => 0
  | d :: r => uptoBulk d + uptoBulkAll r
def uptoBulkEntries {H : Type} : List (Lit × DataW H) → Nat
  | [] => 0
  | x :: r => uptoBulkEntry x + uptoBulkEntries r
def uptoBulkEntry {H : Type} : Lit × DataW H → Nat
  | (.string bytes, d) => bytes.length + uptoBulk d + 1
  | (_, d) => uptoBulk d + 1
 end
def uptoSmall : (H : Type) → List (DataW H) → Bool := fun _ ds => decide (uptoBulkAll ds ≤ 1048576)
def OpenSpec.upto (s : _root_.Go.ChangeSpec) : _root_.Go.OpenSpec := { _root_.Go.OpenSpec.ofChange s with cond := some uptoSmall }

/-- 'countinghouselaw10.ProofBack', WHERE WHAT IT READS IS OF BULK AT MOST 1048576: true; the input reads as it did. -/
def proofBackUptoRow : OpenClaim := { program := "ytmbgfjcmdolggaadoor", sum := "9b5a04263b6db23eb9bb1d3f8e0cb1509c5ea0eead433198bcd8b61a277869fa", func := "countinghouse/countinghouselaw10.ProofBack", spec := "proofBack", inPlace := ["internal/abi.NoEscape"], named := ["countinghouse/sha.round"], apart := false, laid := [("countinghouse/sha.round", laid_countinghouse_sha_round)], narrowed := true }
def ProofBackUptoSaid : Prop := proofBackUptoRow.holds Tryd.pinned (OpenSpec.upto proofBackSpec)

/-- 'countinghouselaw10.ProofReads', WHERE WHAT IT READS IS OF BULK AT MOST 1048576: true; the input reads as it did. -/
def proofReadsUptoRow : OpenClaim := { program := "ytmbgfjcmdolggaadoor", sum := "9b5a04263b6db23eb9bb1d3f8e0cb1509c5ea0eead433198bcd8b61a277869fa", func := "countinghouse/countinghouselaw10.ProofReads", spec := "proofReads", inPlace := ["internal/abi.NoEscape"], named := ["countinghouse/sha.round"], apart := false, laid := [("countinghouse/sha.round", laid_countinghouse_sha_round)], narrowed := true }
def ProofReadsUptoSaid : Prop := proofReadsUptoRow.holds Tryd.pinned (OpenSpec.upto proofReadsSpec)

/-- 'countinghouselaw10.ProofTurned', WHERE WHAT IT READS IS OF BULK AT MOST 1048576: true; the input reads as it did. -/
def proofTurnedUptoRow : OpenClaim := { program := "ytmbgfjcmdolggaadoor", sum := "9b5a04263b6db23eb9bb1d3f8e0cb1509c5ea0eead433198bcd8b61a277869fa", func := "countinghouse/countinghouselaw10.ProofTurned", spec := "proofTurned", inPlace := ["internal/abi.NoEscape"], named := ["countinghouse/sha.round"], apart := false, laid := [("countinghouse/sha.round", laid_countinghouse_sha_round)], narrowed := true }
def ProofTurnedUptoSaid : Prop := proofTurnedUptoRow.holds Tryd.pinned (OpenSpec.upto proofTurnedSpec)

/-- 'countinghouselaw10.ProofMany', WHERE WHAT IT READS IS OF BULK AT MOST 1048576: true; the input reads as it did. -/
def proofManyUptoRow : OpenClaim := { program := "ytmbgfjcmdolggaadoor", sum := "9b5a04263b6db23eb9bb1d3f8e0cb1509c5ea0eead433198bcd8b61a277869fa", func := "countinghouse/countinghouselaw10.ProofMany", spec := "proofMany", inPlace := ["internal/abi.NoEscape"], named := ["countinghouse/sha.round"], apart := false, laid := [("countinghouse/sha.round", laid_countinghouse_sha_round)], narrowed := true }
def ProofManyUptoSaid : Prop := proofManyUptoRow.holds Tryd.pinned (OpenSpec.upto proofManySpec)

/-- 'countinghouselaw10.ProofSame', WHERE WHAT IT READS IS OF BULK AT MOST 1048576: true; the input reads as it did. -/
def proofSameUptoRow : OpenClaim := { program := "ytmbgfjcmdolggaadoor", sum := "9b5a04263b6db23eb9bb1d3f8e0cb1509c5ea0eead433198bcd8b61a277869fa", func := "countinghouse/countinghouselaw10.ProofSame", spec := "proofSame", inPlace := ["internal/abi.NoEscape"], named := ["countinghouse/sha.round"], apart := false, laid := [("countinghouse/sha.round", laid_countinghouse_sha_round)], narrowed := true }
def ProofSameUptoSaid : Prop := proofSameUptoRow.holds Tryd.pinned (OpenSpec.upto proofSameSpec)

/-- 'countinghouselaw10.ProofOwn', WHERE WHAT IT READS IS OF BULK AT MOST 1048576: true; the input reads as it did. -/
def proofOwnUptoRow : OpenClaim := { program := "ytmbgfjcmdolggaadoor", sum := "9b5a04263b6db23eb9bb1d3f8e0cb1509c5ea0eead433198bcd8b61a277869fa", func := "countinghouse/countinghouselaw10.ProofOwn", spec := "proofOwn", inPlace := ["internal/abi.NoEscape"], recurses := true, named := ["countinghouse/sha.round"], apart := false, laid := [("countinghouse/sha.round", laid_countinghouse_sha_round)], narrowed := true }
def ProofOwnUptoSaid : Prop := proofOwnUptoRow.holds Tryd.pinned (OpenSpec.upto proofOwnSpec)

/-- 'countinghouselaw10.ProofBuilds', WHERE WHAT IT READS IS OF BULK AT MOST 1048576: true; the input reads as it did. -/
def proofBuildsUptoRow : OpenClaim := { program := "ytmbgfjcmdolggaadoor", sum := "9b5a04263b6db23eb9bb1d3f8e0cb1509c5ea0eead433198bcd8b61a277869fa", func := "countinghouse/countinghouselaw10.ProofBuilds", spec := "proofBuilds", inPlace := ["internal/abi.NoEscape"], recurses := true, named := ["countinghouse/sha.round"], apart := false, laid := [("countinghouse/sha.round", laid_countinghouse_sha_round)], narrowed := true }
def ProofBuildsUptoSaid : Prop := proofBuildsUptoRow.holds Tryd.pinned (OpenSpec.upto proofBuildsSpec)

/-- 'countinghouselaw10.ProofDeep', WHERE WHAT IT READS IS OF BULK AT MOST 1048576: true; the input reads as it did. -/
def proofDeepUptoRow : OpenClaim := { program := "ytmbgfjcmdolggaadoor", sum := "9b5a04263b6db23eb9bb1d3f8e0cb1509c5ea0eead433198bcd8b61a277869fa", func := "countinghouse/countinghouselaw10.ProofDeep", spec := "proofDeep", inPlace := ["internal/abi.NoEscape"], recurses := true, named := ["countinghouse/sha.round"], apart := false, laid := [("countinghouse/sha.round", laid_countinghouse_sha_round)], narrowed := true }
def ProofDeepUptoSaid : Prop := proofDeepUptoRow.holds Tryd.pinned (OpenSpec.upto proofDeepSpec)

end Rows
end Go.Proofs.YtmbgfjcmdolggaaDoor
