/-
  No cell of these rows narrows 'for every input' (looked for: loops, veiled, ifaces, maps, wideKeys, modest, calm, conditions, laid).
  DERIVED. THE GIVEN ROWS OF THIS SEAT. 6 by the template 'for every input the law returns true; each argument reads behind the call as it read before'; 0 by the template 'total and deterministic' (their statements: YtlfimleciemobabTotals.lean).
  GIVEN WITH THE SEED: the statements are not yours to turn. If you find one false, say at which input.
  Laid BY PROGRAM, IN A SANDBOX (cutbox-rows.mjs): the forced cells as the released guide's own fill.sh prints them over the translation a9a125ecc562e1c0… (all of the seat's roots in one cut). By AI agents, Wed Nov 11 2026. No macro, syntax, notation, axiom, sorry.
-/
import Derived.Test.YtlfimleciemobabChecked
import GoSem.Claim
import GoSem.ClaimJoined
import GoSem.ClaimMapViews
import Derived.JoinedTies
import Derived.KernelRfl
namespace Go.Proofs.Ytlfimleciemobab
/- THE CELL 'sum', in the pinned program and in every row, IS THE sha256 OF THE DUMP (.gsa) THAT YtlfimleciemobabProg.lean LOADS. Nothing in Lean hashes anything: it is a label: what it is worth is what the hold of that sum in a sandbox is worth. -/
noncomputable def Try.pinned : Pinned := { name := "ytlfimleciemobab", sum := "a9a125ecc562e1c08000c4b5d8c29ef2ca6aa5a77a1ca522f901403db6389e7c", checked := Try.checked }
namespace Rows
def none {H : Type} : Left H := { results := [], args := [] }

/-- 'countinghouselaw12.ChainOwn': WHATEVER THE INPUT: true; the input reads as it did. -/
def chainOwnSpec : ChangeSpec := { name := "chainOwn", fn := fun _ => fun
  | [d1, d2] => { results := [.lit (.bool true)], args := [d1, d2] }
  | _ => none }
def chainOwnRow : OpenClaim := { program := "ytlfimleciemobab", sum := "a9a125ecc562e1c08000c4b5d8c29ef2ca6aa5a77a1ca522f901403db6389e7c", func := "countinghouse/countinghouselaw12.ChainOwn", spec := "chainOwn", unfollowed := true, recurses := true, apart := false }
def ChainOwnSaid : Prop := chainOwnRow.holds Try.pinned (OpenSpec.ofChange chainOwnSpec)

/-- ITS FALSE NEIGHBOUR: 'it returns false'. Refute it at one input. -/
def chainOwnWrong : ChangeSpec := { name := "chainOwn", fn := fun _ => fun
  | [d1, d2] => { results := [.lit (.bool false)], args := [d1, d2] }
  | _ => none }
def ChainOwnWrongFalsely : Prop := chainOwnRow.holds Try.pinned (OpenSpec.ofChange chainOwnWrong)

/-- 'countinghouselaw12.ChainErrs': WHATEVER THE INPUT: true; the input reads as it did. -/
def chainErrsSpec : ChangeSpec := { name := "chainErrs", fn := fun _ => fun
  | [d1, d2, d3] => { results := [.lit (.bool true)], args := [d1, d2, d3] }
  | _ => none }
def chainErrsRow : OpenClaim := { program := "ytlfimleciemobab", sum := "a9a125ecc562e1c08000c4b5d8c29ef2ca6aa5a77a1ca522f901403db6389e7c", func := "countinghouse/countinghouselaw12.ChainErrs", spec := "chainErrs", unfollowed := true, recurses := true, apart := false }
def ChainErrsSaid : Prop := chainErrsRow.holds Try.pinned (OpenSpec.ofChange chainErrsSpec)

/-- ITS FALSE NEIGHBOUR: 'it returns false'. Refute it at one input. -/
def chainErrsWrong : ChangeSpec := { name := "chainErrs", fn := fun _ => fun
  | [d1, d2, d3] => { results := [.lit (.bool false)], args := [d1, d2, d3] }
  | _ => none }
def ChainErrsWrongFalsely : Prop := chainErrsRow.holds Try.pinned (OpenSpec.ofChange chainErrsWrong)

/-- 'countinghouselaw12.ChainPlays': WHATEVER THE INPUT: true; the input reads as it did. -/
def chainPlaysSpec : ChangeSpec := { name := "chainPlays", fn := fun _ => fun
  | [d1, d2] => { results := [.lit (.bool true)], args := [d1, d2] }
  | _ => none }
def chainPlaysRow : OpenClaim := { program := "ytlfimleciemobab", sum := "a9a125ecc562e1c08000c4b5d8c29ef2ca6aa5a77a1ca522f901403db6389e7c", func := "countinghouse/countinghouselaw12.ChainPlays", spec := "chainPlays", unfollowed := true, recurses := true, apart := false }
def ChainPlaysSaid : Prop := chainPlaysRow.holds Try.pinned (OpenSpec.ofChange chainPlaysSpec)

/-- ITS FALSE NEIGHBOUR: 'it returns false'. Refute it at one input. -/
def chainPlaysWrong : ChangeSpec := { name := "chainPlays", fn := fun _ => fun
  | [d1, d2] => { results := [.lit (.bool false)], args := [d1, d2] }
  | _ => none }
def ChainPlaysWrongFalsely : Prop := chainPlaysRow.holds Try.pinned (OpenSpec.ofChange chainPlaysWrong)

/-- 'countinghouselaw12.ChainTrims': WHATEVER THE INPUT: true; the input reads as it did. -/
def chainTrimsSpec : ChangeSpec := { name := "chainTrims", fn := fun _ => fun
  | [d1, d2, d3] => { results := [.lit (.bool true)], args := [d1, d2, d3] }
  | _ => none }
def chainTrimsRow : OpenClaim := { program := "ytlfimleciemobab", sum := "a9a125ecc562e1c08000c4b5d8c29ef2ca6aa5a77a1ca522f901403db6389e7c", func := "countinghouse/countinghouselaw12.ChainTrims", spec := "chainTrims", unfollowed := true, recurses := true, apart := false }
def ChainTrimsSaid : Prop := chainTrimsRow.holds Try.pinned (OpenSpec.ofChange chainTrimsSpec)

/-- ITS FALSE NEIGHBOUR: 'it returns false'. Refute it at one input. -/
def chainTrimsWrong : ChangeSpec := { name := "chainTrims", fn := fun _ => fun
  | [d1, d2, d3] => { results := [.lit (.bool false)], args := [d1, d2, d3] }
  | _ => none }
def ChainTrimsWrongFalsely : Prop := chainTrimsRow.holds Try.pinned (OpenSpec.ofChange chainTrimsWrong)

/-- 'countinghouselaw12.ChainNil': WHATEVER THE INPUT: true; the input reads as it did. -/
def chainNilSpec : ChangeSpec := { name := "chainNil", fn := fun _ => fun
  | [d] => { results := [.lit (.bool true)], args := [d] }
  | _ => none }
def chainNilRow : OpenClaim := { program := "ytlfimleciemobab", sum := "a9a125ecc562e1c08000c4b5d8c29ef2ca6aa5a77a1ca522f901403db6389e7c", func := "countinghouse/countinghouselaw12.ChainNil", spec := "chainNil", unfollowed := true, recurses := true, apart := false }
def ChainNilSaid : Prop := chainNilRow.holds Try.pinned (OpenSpec.ofChange chainNilSpec)

/-- ITS FALSE NEIGHBOUR: 'it returns false'. Refute it at one input. -/
def chainNilWrong : ChangeSpec := { name := "chainNil", fn := fun _ => fun
  | [d] => { results := [.lit (.bool false)], args := [d] }
  | _ => none }
def ChainNilWrongFalsely : Prop := chainNilRow.holds Try.pinned (OpenSpec.ofChange chainNilWrong)

/-- 'countinghouselaw12.ChainLast': WHATEVER THE INPUT: true; the input reads as it did. -/
def chainLastSpec : ChangeSpec := { name := "chainLast", fn := fun _ => fun
  | [d1, d2] => { results := [.lit (.bool true)], args := [d1, d2] }
  | _ => none }
def chainLastRow : OpenClaim := { program := "ytlfimleciemobab", sum := "a9a125ecc562e1c08000c4b5d8c29ef2ca6aa5a77a1ca522f901403db6389e7c", func := "countinghouse/countinghouselaw12.ChainLast", spec := "chainLast", unfollowed := true, recurses := true, apart := false }
def ChainLastSaid : Prop := chainLastRow.holds Try.pinned (OpenSpec.ofChange chainLastSpec)

/-- ITS FALSE NEIGHBOUR: 'it returns false'. Refute it at one input. -/
def chainLastWrong : ChangeSpec := { name := "chainLast", fn := fun _ => fun
  | [d1, d2] => { results := [.lit (.bool false)], args := [d1, d2] }
  | _ => none }
def ChainLastWrongFalsely : Prop := chainLastRow.holds Try.pinned (OpenSpec.ofChange chainLastWrong)

/- THE SECOND FORM. 'bulk': how many values and letters a reading holds, each counted each time it is reached (what is shared counts as often as it is met; a slice's spare places count too). A statement '..UptoSaid' is the law's where the arguments, and the package variables that the reading takes, are together of bulk at most 1048576: NARROWER than '..Said'. Prove '..Said' where nothing that the law and all that it calls make is longer than what came in: it says more and counts as full. Else prove '..UptoSaid'. A law counts once. -/
mutual
def uptoBulk {H : Type} : DataW H → Nat
  | .lit (.string bytes) => bytes.length + 1
  | .lit _ => 1
  | .nil => 1
  | .ptr d => uptoBulk d + 1
  | .slice elems spare => uptoBulkAll elems + uptoBulkAll spare + 1
  | .agg parts => uptoBulkAll parts + 1
  | .iface _ d => uptoBulk d + 1
  | .map entries => uptoBulkEntries entries + 1
  | .held _ => 1
def uptoBulkAll {H : Type} : List (DataW H) → Nat
  | [] => 0
  | d :: r => uptoBulk d + uptoBulkAll r
def uptoBulkEntries {H : Type} : List (Lit × DataW H) → Nat
  | [] => 0
  | x :: r => uptoBulkEntry x + uptoBulkEntries r
def uptoBulkEntry {H : Type} : Lit × DataW H → Nat
  | (.string bytes, d) => bytes.length + uptoBulk d + 1
  | (_, d) => uptoBulk d + 1
 end
def uptoSmall : (H : Type) → List (DataW H) → Bool := fun _ ds => decide (uptoBulkAll ds ≤ 1048576)
def OpenSpec.upto (s : _root_.Go.ChangeSpec) : _root_.Go.OpenSpec := { _root_.Go.OpenSpec.ofChange s with cond := some uptoSmall }

/-- 'countinghouselaw12.ChainOwn', WHERE WHAT IT READS IS OF BULK AT MOST 1048576: true; the input reads as it did. -/
def chainOwnUptoRow : OpenClaim := { program := "ytlfimleciemobab", sum := "a9a125ecc562e1c08000c4b5d8c29ef2ca6aa5a77a1ca522f901403db6389e7c", func := "countinghouse/countinghouselaw12.ChainOwn", spec := "chainOwn", unfollowed := true, recurses := true, apart := false, narrowed := true }
def ChainOwnUptoSaid : Prop := chainOwnUptoRow.holds Try.pinned (OpenSpec.upto chainOwnSpec)

/-- 'countinghouselaw12.ChainErrs', WHERE WHAT IT READS IS OF BULK AT MOST 1048576: true; the input reads as it did. -/
def chainErrsUptoRow : OpenClaim := { program := "ytlfimleciemobab", sum := "a9a125ecc562e1c08000c4b5d8c29ef2ca6aa5a77a1ca522f901403db6389e7c", func := "countinghouse/countinghouselaw12.ChainErrs", spec := "chainErrs", unfollowed := true, recurses := true, apart := false, narrowed := true }
def ChainErrsUptoSaid : Prop := chainErrsUptoRow.holds Try.pinned (OpenSpec.upto chainErrsSpec)

/-- 'countinghouselaw12.ChainPlays', WHERE WHAT IT READS IS OF BULK AT MOST 1048576: true; the input reads as it did. -/
def chainPlaysUptoRow : OpenClaim := { program := "ytlfimleciemobab", sum := "a9a125ecc562e1c08000c4b5d8c29ef2ca6aa5a77a1ca522f901403db6389e7c", func := "countinghouse/countinghouselaw12.ChainPlays", spec := "chainPlays", unfollowed := true, recurses := true, apart := false, narrowed := true }
def ChainPlaysUptoSaid : Prop := chainPlaysUptoRow.holds Try.pinned (OpenSpec.upto chainPlaysSpec)

/-- 'countinghouselaw12.ChainTrims', WHERE WHAT IT READS IS OF BULK AT MOST 1048576: true; the input reads as it did. -/
def chainTrimsUptoRow : OpenClaim := { program := "ytlfimleciemobab", sum := "a9a125ecc562e1c08000c4b5d8c29ef2ca6aa5a77a1ca522f901403db6389e7c", func := "countinghouse/countinghouselaw12.ChainTrims", spec := "chainTrims", unfollowed := true, recurses := true, apart := false, narrowed := true }
def ChainTrimsUptoSaid : Prop := chainTrimsUptoRow.holds Try.pinned (OpenSpec.upto chainTrimsSpec)

/-- 'countinghouselaw12.ChainNil', WHERE WHAT IT READS IS OF BULK AT MOST 1048576: true; the input reads as it did. -/
def chainNilUptoRow : OpenClaim := { program := "ytlfimleciemobab", sum := "a9a125ecc562e1c08000c4b5d8c29ef2ca6aa5a77a1ca522f901403db6389e7c", func := "countinghouse/countinghouselaw12.ChainNil", spec := "chainNil", unfollowed := true, recurses := true, apart := false, narrowed := true }
def ChainNilUptoSaid : Prop := chainNilUptoRow.holds Try.pinned (OpenSpec.upto chainNilSpec)

/-- 'countinghouselaw12.ChainLast', WHERE WHAT IT READS IS OF BULK AT MOST 1048576: true; the input reads as it did. -/
def chainLastUptoRow : OpenClaim := { program := "ytlfimleciemobab", sum := "a9a125ecc562e1c08000c4b5d8c29ef2ca6aa5a77a1ca522f901403db6389e7c", func := "countinghouse/countinghouselaw12.ChainLast", spec := "chainLast", unfollowed := true, recurses := true, apart := false, narrowed := true }
def ChainLastUptoSaid : Prop := chainLastUptoRow.holds Try.pinned (OpenSpec.upto chainLastSpec)

end Rows
end Go.Proofs.Ytlfimleciemobab
