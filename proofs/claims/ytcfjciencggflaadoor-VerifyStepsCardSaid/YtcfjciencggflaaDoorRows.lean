/-
  NARROWER THAN 'FOR EVERY INPUT', by the rows' own cells (each row's printed sentence says how): VerifyAny: laid · VerifySteps: laid · VerifyClash: laid · VerifyShows: laid · VerifyTurned: laid · VerifyOther: laid.
  DERIVED. THE GIVEN ROWS OF THIS SEAT. 6 by the template 'for every input the law returns true; each argument reads behind the call as it read before'; 0 by the template 'total and deterministic' (their statements: YtcfjciencggflaaDoorTotals.lean).
  GIVEN WITH THE SEED: the statements are not yours to turn. If you find one false, say at which input.
  Laid BY PROGRAM, IN A SANDBOX (cutbox-rows.mjs): the forced cells as the released guide's own fill.sh prints them over the translation 066d30a69c143309… (all of the seat's roots in one cut). By AI agents, Wed Nov 11 2026. No macro, syntax, notation, axiom, sorry.
-/
import Derived.Test.YtcfjciencggflaaDoorChecked
import GoSem.Claim
import GoSem.ClaimJoined
import GoSem.ClaimMapViews
import Derived.JoinedTies
import Derived.KernelRfl
namespace Go.Proofs.YtcfjciencggflaaDoor
/- THE CELL 'sum', in the pinned program and in every row, IS THE sha256 OF THE DUMP (.gsa) THAT YtcfjciencggflaaDoorProg.lean LOADS. Nothing in Lean hashes anything: it is a label: what it is worth is what the hold of that sum in a sandbox is worth. -/
noncomputable def Tryd.pinned : Pinned := { name := "ytcfjciencggflaadoor", sum := "066d30a69c143309021a14d145d4f255d018739f62aca5742f788824ecca45c2", checked := Tryd.checked }
namespace Rows
def none {H : Type} : Left H := { results := [], args := [] }

/- WHAT THE LISTED PACKAGE-LEVEL VARIABLES READ AS WHEN THE CALL BEGINS. Each datum BY PROGRAM (the guide's laid-datum.mjs) off the statement by which the dump's own 'gosem.cut.vars' lays the variable. In a bare row this is a premise. The card (YtcfjciencggflaaDoorCards.lean) ties it to the program's text. -/
def laid_countinghouse_sha_round {H : Type} : DataW H := .agg [.lit (.int .u32 1116352408), .lit (.int .u32 1899447441), .lit (.int .u32 3049323471), .lit (.int .u32 3921009573), .lit (.int .u32 961987163), .lit (.int .u32 1508970993), .lit (.int .u32 2453635748), .lit (.int .u32 2870763221), .lit (.int .u32 3624381080), .lit (.int .u32 310598401), .lit (.int .u32 607225278), .lit (.int .u32 1426881987), .lit (.int .u32 1925078388), .lit (.int .u32 2162078206), .lit (.int .u32 2614888103), .lit (.int .u32 3248222580), .lit (.int .u32 3835390401), .lit (.int .u32 4022224774), .lit (.int .u32 264347078), .lit (.int .u32 604807628), .lit (.int .u32 770255983), .lit (.int .u32 1249150122), .lit (.int .u32 1555081692), .lit (.int .u32 1996064986), .lit (.int .u32 2554220882), .lit (.int .u32 2821834349), .lit (.int .u32 2952996808), .lit (.int .u32 3210313671), .lit (.int .u32 3336571891), .lit (.int .u32 3584528711), .lit (.int .u32 113926993), .lit (.int .u32 338241895), .lit (.int .u32 666307205), .lit (.int .u32 773529912), .lit (.int .u32 1294757372), .lit (.int .u32 1396182291), .lit (.int .u32 1695183700), .lit (.int .u32 1986661051), .lit (.int .u32 2177026350), .lit (.int .u32 2456956037), .lit (.int .u32 2730485921), .lit (.int .u32 2820302411), .lit (.int .u32 3259730800), .lit (.int .u32 3345764771), .lit (.int .u32 3516065817), .lit (.int .u32 3600352804), .lit (.int .u32 4094571909), .lit (.int .u32 275423344), .lit (.int .u32 430227734), .lit (.int .u32 506948616), .lit (.int .u32 659060556), .lit (.int .u32 883997877), .lit (.int .u32 958139571), .lit (.int .u32 1322822218), .lit (.int .u32 1537002063), .lit (.int .u32 1747873779), .lit (.int .u32 1955562222), .lit (.int .u32 2024104815), .lit (.int .u32 2227730452), .lit (.int .u32 2361852424), .lit (.int .u32 2428436474), .lit (.int .u32 2756734187), .lit (.int .u32 3204031479), .lit (.int .u32 3329325298)]

/-- 'countinghouselaw11.VerifyAny': WHATEVER THE INPUT: true; the input reads as it did. -/
def verifyAnySpec : ChangeSpec := { name := "verifyAny", fn := fun _ => fun
  | [d1, d2, d3, d4, d5] => { results := [.lit (.bool true)], args := [d1, d2, d3, d4, d5] }
  | _ => none }
def verifyAnyRow : OpenClaim := { program := "ytcfjciencggflaadoor", sum := "066d30a69c143309021a14d145d4f255d018739f62aca5742f788824ecca45c2", func := "countinghouse/countinghouselaw11.VerifyAny", spec := "verifyAny", inPlace := ["internal/abi.NoEscape"], unfollowed := true, recurses := true, named := ["countinghouse/sha.round"], apart := false, laid := [("countinghouse/sha.round", laid_countinghouse_sha_round)] }
def VerifyAnySaid : Prop := verifyAnyRow.holds Tryd.pinned (OpenSpec.ofChange verifyAnySpec)

/-- ITS FALSE NEIGHBOUR: 'it returns false'. Refute it at one input. -/
def verifyAnyWrong : ChangeSpec := { name := "verifyAny", fn := fun _ => fun
  | [d1, d2, d3, d4, d5] => { results := [.lit (.bool false)], args := [d1, d2, d3, d4, d5] }
  | _ => none }
def VerifyAnyWrongFalsely : Prop := verifyAnyRow.holds Tryd.pinned (OpenSpec.ofChange verifyAnyWrong)

/-- 'countinghouselaw11.VerifySteps': WHATEVER THE INPUT: true; the input reads as it did. -/
def verifyStepsSpec : ChangeSpec := { name := "verifySteps", fn := fun _ => fun
  | [d1, d2, d3] => { results := [.lit (.bool true)], args := [d1, d2, d3] }
  | _ => none }
def verifyStepsRow : OpenClaim := { program := "ytcfjciencggflaadoor", sum := "066d30a69c143309021a14d145d4f255d018739f62aca5742f788824ecca45c2", func := "countinghouse/countinghouselaw11.VerifySteps", spec := "verifySteps", inPlace := ["internal/abi.NoEscape"], unfollowed := true, recurses := true, named := ["countinghouse/sha.round"], apart := false, laid := [("countinghouse/sha.round", laid_countinghouse_sha_round)] }
def VerifyStepsSaid : Prop := verifyStepsRow.holds Tryd.pinned (OpenSpec.ofChange verifyStepsSpec)

/-- ITS FALSE NEIGHBOUR: 'it returns false'. Refute it at one input. -/
def verifyStepsWrong : ChangeSpec := { name := "verifySteps", fn := fun _ => fun
  | [d1, d2, d3] => { results := [.lit (.bool false)], args := [d1, d2, d3] }
  | _ => none }
def VerifyStepsWrongFalsely : Prop := verifyStepsRow.holds Tryd.pinned (OpenSpec.ofChange verifyStepsWrong)

/-- 'countinghouselaw11.VerifyClash': WHATEVER THE INPUT: true; the input reads as it did. -/
def verifyClashSpec : ChangeSpec := { name := "verifyClash", fn := fun _ => fun
  | [d1, d2, d3, d4, d5, d6] => { results := [.lit (.bool true)], args := [d1, d2, d3, d4, d5, d6] }
  | _ => none }
def verifyClashRow : OpenClaim := { program := "ytcfjciencggflaadoor", sum := "066d30a69c143309021a14d145d4f255d018739f62aca5742f788824ecca45c2", func := "countinghouse/countinghouselaw11.VerifyClash", spec := "verifyClash", inPlace := ["internal/abi.NoEscape"], unfollowed := true, recurses := true, named := ["countinghouse/sha.round"], apart := false, laid := [("countinghouse/sha.round", laid_countinghouse_sha_round)] }
def VerifyClashSaid : Prop := verifyClashRow.holds Tryd.pinned (OpenSpec.ofChange verifyClashSpec)

/-- ITS FALSE NEIGHBOUR: 'it returns false'. Refute it at one input. -/
def verifyClashWrong : ChangeSpec := { name := "verifyClash", fn := fun _ => fun
  | [d1, d2, d3, d4, d5, d6] => { results := [.lit (.bool false)], args := [d1, d2, d3, d4, d5, d6] }
  | _ => none }
def VerifyClashWrongFalsely : Prop := verifyClashRow.holds Tryd.pinned (OpenSpec.ofChange verifyClashWrong)

/-- 'countinghouselaw11.VerifyShows': WHATEVER THE INPUT: true; the input reads as it did. -/
def verifyShowsSpec : ChangeSpec := { name := "verifyShows", fn := fun _ => fun
  | [d1, d2, d3, d4] => { results := [.lit (.bool true)], args := [d1, d2, d3, d4] }
  | _ => none }
def verifyShowsRow : OpenClaim := { program := "ytcfjciencggflaadoor", sum := "066d30a69c143309021a14d145d4f255d018739f62aca5742f788824ecca45c2", func := "countinghouse/countinghouselaw11.VerifyShows", spec := "verifyShows", inPlace := ["internal/abi.NoEscape"], unfollowed := true, recurses := true, named := ["countinghouse/sha.round"], apart := false, laid := [("countinghouse/sha.round", laid_countinghouse_sha_round)] }
def VerifyShowsSaid : Prop := verifyShowsRow.holds Tryd.pinned (OpenSpec.ofChange verifyShowsSpec)

/-- ITS FALSE NEIGHBOUR: 'it returns false'. Refute it at one input. -/
def verifyShowsWrong : ChangeSpec := { name := "verifyShows", fn := fun _ => fun
  | [d1, d2, d3, d4] => { results := [.lit (.bool false)], args := [d1, d2, d3, d4] }
  | _ => none }
def VerifyShowsWrongFalsely : Prop := verifyShowsRow.holds Tryd.pinned (OpenSpec.ofChange verifyShowsWrong)

/-- 'countinghouselaw11.VerifyTurned': WHATEVER THE INPUT: true; the input reads as it did. -/
def verifyTurnedSpec : ChangeSpec := { name := "verifyTurned", fn := fun _ => fun
  | [d1, d2, d3, d4, d5] => { results := [.lit (.bool true)], args := [d1, d2, d3, d4, d5] }
  | _ => none }
def verifyTurnedRow : OpenClaim := { program := "ytcfjciencggflaadoor", sum := "066d30a69c143309021a14d145d4f255d018739f62aca5742f788824ecca45c2", func := "countinghouse/countinghouselaw11.VerifyTurned", spec := "verifyTurned", inPlace := ["internal/abi.NoEscape"], unfollowed := true, recurses := true, named := ["countinghouse/sha.round"], apart := false, laid := [("countinghouse/sha.round", laid_countinghouse_sha_round)] }
def VerifyTurnedSaid : Prop := verifyTurnedRow.holds Tryd.pinned (OpenSpec.ofChange verifyTurnedSpec)

/-- ITS FALSE NEIGHBOUR: 'it returns false'. Refute it at one input. -/
def verifyTurnedWrong : ChangeSpec := { name := "verifyTurned", fn := fun _ => fun
  | [d1, d2, d3, d4, d5] => { results := [.lit (.bool false)], args := [d1, d2, d3, d4, d5] }
  | _ => none }
def VerifyTurnedWrongFalsely : Prop := verifyTurnedRow.holds Tryd.pinned (OpenSpec.ofChange verifyTurnedWrong)

/-- 'countinghouselaw11.VerifyOther': WHATEVER THE INPUT: true; the input reads as it did. -/
def verifyOtherSpec : ChangeSpec := { name := "verifyOther", fn := fun _ => fun
  | [d1, d2, d3, d4] => { results := [.lit (.bool true)], args := [d1, d2, d3, d4] }
  | _ => none }
def verifyOtherRow : OpenClaim := { program := "ytcfjciencggflaadoor", sum := "066d30a69c143309021a14d145d4f255d018739f62aca5742f788824ecca45c2", func := "countinghouse/countinghouselaw11.VerifyOther", spec := "verifyOther", inPlace := ["internal/abi.NoEscape"], unfollowed := true, recurses := true, named := ["countinghouse/sha.round"], apart := false, laid := [("countinghouse/sha.round", laid_countinghouse_sha_round)] }
def VerifyOtherSaid : Prop := verifyOtherRow.holds Tryd.pinned (OpenSpec.ofChange verifyOtherSpec)

/-- ITS FALSE NEIGHBOUR: 'it returns false'. Refute it at one input. -/
def verifyOtherWrong : ChangeSpec := { name := "verifyOther", fn := fun _ => fun
  | [d1, d2, d3, d4] => { results := [.lit (.bool false)], args := [d1, d2, d3, d4] }
  | _ => none }
def VerifyOtherWrongFalsely : Prop := verifyOtherRow.holds Tryd.pinned (OpenSpec.ofChange verifyOtherWrong)

/- THE SECOND FORM. 'bulk': how many values and letters a reading holds, each counted each time it is reached (what is shared counts as often as it is met; a slice's spare places count too). A statement '..UptoSaid' is the law's where the arguments, and the package variables that the reading takes, are together of bulk at most 1048576: NARROWER than '..Said'. Prove '..Said' where nothing that the law and all that it calls make is longer than what came in: it says more and counts as full. Else prove '..UptoSaid'. A law counts once. -/
mutual
def uptoBulk {H : Type} : DataW H → Nat
  | .lit (.string bytes) => bytes.length + 1
  | .lit _ => 1
  | .nil => 1
  | .ptr d => uptoBulk d + 1
  | .slice elems spare => uptoBulkAll elems + uptoBulkAll spare + 1
  | .agg parts => uptoBulkAll parts + 1
  | .iface _ d => uptoBulk d + 1
  | .map entries => uptoBulkEntries entries + 1
  | .held _ => 1
def uptoBulkAll {H : Type} : List (DataW H) → Nat
  | [] => 0
  | d :: r => uptoBulk d + uptoBulkAll r
def uptoBulkEntries {H : Type} : List (Lit × DataW H) → Nat
  | [] => 0
  | x :: r => uptoBulkEntry x + uptoBulkEntries r
def uptoBulkEntry {H : Type} : Lit × DataW H → Nat
  | (.string bytes, d) => bytes.length + uptoBulk d + 1
  | (_, d) => uptoBulk d + 1
 end
def uptoSmall : (H : Type) → List (DataW H) → Bool := fun _ ds => decide (uptoBulkAll ds ≤ 1048576)
def OpenSpec.upto (s : _root_.Go.ChangeSpec) : _root_.Go.OpenSpec := { _root_.Go.OpenSpec.ofChange s with cond := some uptoSmall }

/-- 'countinghouselaw11.VerifyAny', WHERE WHAT IT READS IS OF BULK AT MOST 1048576: true; the input reads as it did. -/
def verifyAnyUptoRow : OpenClaim := { program := "ytcfjciencggflaadoor", sum := "066d30a69c143309021a14d145d4f255d018739f62aca5742f788824ecca45c2", func := "countinghouse/countinghouselaw11.VerifyAny", spec := "verifyAny", inPlace := ["internal/abi.NoEscape"], unfollowed := true, recurses := true, named := ["countinghouse/sha.round"], apart := false, laid := [("countinghouse/sha.round", laid_countinghouse_sha_round)], narrowed := true }
def VerifyAnyUptoSaid : Prop := verifyAnyUptoRow.holds Tryd.pinned (OpenSpec.upto verifyAnySpec)

/-- 'countinghouselaw11.VerifySteps', WHERE WHAT IT READS IS OF BULK AT MOST 1048576: true; the input reads as it did. -/
def verifyStepsUptoRow : OpenClaim := { program := "ytcfjciencggflaadoor", sum := "066d30a69c143309021a14d145d4f255d018739f62aca5742f788824ecca45c2", func := "countinghouse/countinghouselaw11.VerifySteps", spec := "verifySteps", inPlace := ["internal/abi.NoEscape"], unfollowed := true, recurses := true, named := ["countinghouse/sha.round"], apart := false, laid := [("countinghouse/sha.round", laid_countinghouse_sha_round)], narrowed := true }
def VerifyStepsUptoSaid : Prop := verifyStepsUptoRow.holds Tryd.pinned (OpenSpec.upto verifyStepsSpec)

/-- 'countinghouselaw11.VerifyClash', WHERE WHAT IT READS IS OF BULK AT MOST 1048576: true; the input reads as it did. -/
def verifyClashUptoRow : OpenClaim := { program := "ytcfjciencggflaadoor", sum := "066d30a69c143309021a14d145d4f255d018739f62aca5742f788824ecca45c2", func := "countinghouse/countinghouselaw11.VerifyClash", spec := "verifyClash", inPlace := ["internal/abi.NoEscape"], unfollowed := true, recurses := true, named := ["countinghouse/sha.round"], apart := false, laid := [("countinghouse/sha.round", laid_countinghouse_sha_round)], narrowed := true }
def VerifyClashUptoSaid : Prop := verifyClashUptoRow.holds Tryd.pinned (OpenSpec.upto verifyClashSpec)

/-- 'countinghouselaw11.VerifyShows', WHERE WHAT IT READS IS OF BULK AT MOST 1048576: true; the input reads as it did. -/
def verifyShowsUptoRow : OpenClaim := { program := "ytcfjciencggflaadoor", sum := "066d30a69c143309021a14d145d4f255d018739f62aca5742f788824ecca45c2", func := "countinghouse/countinghouselaw11.VerifyShows", spec := "verifyShows", inPlace := ["internal/abi.NoEscape"], unfollowed := true, recurses := true, named := ["countinghouse/sha.round"], apart := false, laid := [("countinghouse/sha.round", laid_countinghouse_sha_round)], narrowed := true }
def VerifyShowsUptoSaid : Prop := verifyShowsUptoRow.holds Tryd.pinned (OpenSpec.upto verifyShowsSpec)

/-- 'countinghouselaw11.VerifyTurned', WHERE WHAT IT READS IS OF BULK AT MOST 1048576: true; the input reads as it did. -/
def verifyTurnedUptoRow : OpenClaim := { program := "ytcfjciencggflaadoor", sum := "066d30a69c143309021a14d145d4f255d018739f62aca5742f788824ecca45c2", func := "countinghouse/countinghouselaw11.VerifyTurned", spec := "verifyTurned", inPlace := ["internal/abi.NoEscape"], unfollowed := true, recurses := true, named := ["countinghouse/sha.round"], apart := false, laid := [("countinghouse/sha.round", laid_countinghouse_sha_round)], narrowed := true }
def VerifyTurnedUptoSaid : Prop := verifyTurnedUptoRow.holds Tryd.pinned (OpenSpec.upto verifyTurnedSpec)

/-- 'countinghouselaw11.VerifyOther', WHERE WHAT IT READS IS OF BULK AT MOST 1048576: true; the input reads as it did. -/
def verifyOtherUptoRow : OpenClaim := { program := "ytcfjciencggflaadoor", sum := "066d30a69c143309021a14d145d4f255d018739f62aca5742f788824ecca45c2", func := "countinghouse/countinghouselaw11.VerifyOther", spec := "verifyOther", inPlace := ["internal/abi.NoEscape"], unfollowed := true, recurses := true, named := ["countinghouse/sha.round"], apart := false, laid := [("countinghouse/sha.round", laid_countinghouse_sha_round)], narrowed := true }
def VerifyOtherUptoSaid : Prop := verifyOtherUptoRow.holds Tryd.pinned (OpenSpec.upto verifyOtherSpec)

end Rows
end Go.Proofs.YtcfjciencggflaaDoor
