/- The walks of the reference's blob and Encode. -/
import Derived.Test.YtcfjciencggflaaDoorEncB
set_option linter.unusedVariables false
set_option linter.unusedSimpArgs false
namespace Go.Proofs.YtcfjciencggflaaDoor
open Go.RowKit PrintLast

/-- What a call leaves that makes bytes; their number under a name. -/
def GaveN (w : World) (L : List UInt8) (e : Ending) (w' : World) : Prop := ∃ A' c' N, Hid (N = L.length) ∧ e = .returned (.slice A' N c') ∧ Row w' w.heap.size A' c' L ∧ Below w.heap.size w w'
theorem Gave.n {w w' : World} {L : List UInt8} {e : Ending} (h : Gave w L e w') : GaveN w L e w' := by
  obtain ⟨A', c', rfl, h1, h2⟩ := h
  exact ⟨A', c', L.length, hid rfl, rfl, h1, h2⟩
theorem GaveN.back {w w' : World} {L : List UInt8} {e : Ending} (h : GaveN w L e w') : Gave w L e w' := by
  obtain ⟨A', c', N, hN, rfl, h1, h2⟩ := h
  exact ⟨A', c', by rw [← hN.out], h1, h2⟩
theorem num_two {w : World} {n : Nat} : Calls Tryd.prog 29 #[.int .u64 (n : Int), .int .i64 2] w fun e w' => ∃ A c, e = .returned (.slice A 2 c) ∧ Row w' w.heap.size A c (numBytes n 2) ∧ Below w.heap.size w w' := by
  refine (num_any (n := n) (m := 2) (by omega)).mono ?_
  rintro e w' ⟨A, c, rfl, h1, _, h2⟩
  exact ⟨A, c, rfl, h1, h2⟩

end Go.Proofs.YtcfjciencggflaaDoor
