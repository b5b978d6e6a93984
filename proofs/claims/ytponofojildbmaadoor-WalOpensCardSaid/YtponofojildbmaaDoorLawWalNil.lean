/- WalNil: of no log, and no disk. -/
import Derived.Test.YtponofojildbmaaDoorWalF
import Derived.OwnWalk
set_option linter.unusedVariables false
set_option linter.unusedSimpArgs false
namespace Go.Proofs.YtponofojildbmaaDoor
open Go.RowKit PrintLast

theorem open_nil {w : World} : Calls Tryd.prog 24 #[.pointer none] w fun e w' => e = .returned (.tuple #[.pointer none, .slice none 0 0, .int .i64 9]) ∧ w = w' := by
  go_enter Tryd.func24, Tryd.ntmps24
  go_wp2
  go_ret3
  exact ⟨rfl, rfl⟩
theorem append_nil {w : World} {A : Option Addr} {n c : Nat} : Calls Tryd.prog 28 #[.pointer none, .slice A n c] w fun e w' => e = .returned (.int .i64 9) ∧ w = w' := by
  go_enter Tryd.func28, Tryd.ntmps28
  go_wp2
  go_ret
  exact ⟨rfl, rfl⟩
theorem sync_nil {w : World} : Calls Tryd.prog 29 #[.pointer none] w fun e w' => e = .returned (.int .i64 9) ∧ w = w' := by
  go_enter Tryd.func29, Tryd.ntmps29
  go_wp2
  go_ret
  exact ⟨rfl, rfl⟩
theorem size_nil {w : World} : Calls Tryd.prog 26 #[.pointer none] w fun e w' => e = .returned (.int .i64 0) ∧ w = w' := by
  go_enter Tryd.func26, Tryd.ntmps26
  go_wp2
  go_ret
  exact ⟨rfl, rfl⟩

set_option maxRecDepth 100000 in
set_option maxHeartbeats 3200000 in
theorem nil_walk {w : World} (hT : Table w) {A : Option Addr} {c : Nat} {p : List UInt8} (_hp : BSA w A c p) :
    Calls Tryd.prog 7 #[.slice A p.length c] w fun e w' => e = .returned (.bool true) ∧ Below w.heap.size w w' := by
  have H := hid (both_any hT)
  go_enter Tryd.func7, Tryd.ntmps7
  go_wp2_with fail
  refine open_nil.mono ?_
  rintro e w1 ⟨rfl, rfl⟩
  go_wp2_with fail
  refine H.out.mono ?_
  rintro e w1 ⟨rfl, B1⟩
  go_wp2_with fail
  refine append_nil.mono ?_
  rintro e w2 ⟨rfl, rfl⟩
  go_wp2_with fail
  refine sync_nil.mono ?_
  rintro e w2 ⟨rfl, rfl⟩
  go_wp2_with fail
  refine size_nil.mono ?_
  rintro e w2 ⟨rfl, rfl⟩
  go_wp2
  go_ret
  exact ⟨rfl, B1⟩
end Go.Proofs.YtponofojildbmaaDoor
