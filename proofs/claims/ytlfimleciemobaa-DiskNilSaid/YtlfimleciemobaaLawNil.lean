/- DiskNil: of no disk. -/
import Derived.Test.YtlfimleciemobaaDiskE
set_option linter.unusedVariables false
set_option linter.unusedSimpArgs false
namespace Go.Proofs.Ytlfimleciemobaa
open Go.RowKit PrintLast

theorem fail_nil {w : World} {n : Int} : Calls Try.prog 23 #[.pointer none, .int .i64 n] w fun e w' => e = .returned (.tuple #[]) ∧ w = w' := by
  go_enter Try.func23, Try.ntmps23
  go_wp2
  go_end0
  exact ⟨rfl, rfl⟩
theorem crash_nil {w : World} {n : Int} : Calls Try.prog 16 #[.pointer none, .int .i64 n] w fun e w' => e = .returned (.tuple #[]) ∧ w = w' := by
  go_enter Try.func16, Try.ntmps16
  go_wp2
  go_end0
  exact ⟨rfl, rfl⟩
theorem append_nil {w : World} {A2 : Option Addr} {n2 c2 : Nat} : Calls Try.prog 14 #[.pointer none, .slice A2 n2 c2] w fun e w' => e = .returned (.int .i64 9) ∧ Below w.heap.size w w' := by
  go_enter Try.func14, Try.ntmps14
  go_wp2
  go_ret
  exact ⟨rfl, below_alloc (below_alloc (Below.refl _ w) _) _⟩
theorem sync_nil {w : World} : Calls Try.prog 15 #[.pointer none] w fun e w' => e = .returned (.int .i64 9) ∧ Below w.heap.size w w' := by
  go_enter Try.func15, Try.ntmps15
  go_wp2
  go_ret
  exact ⟨rfl, below_alloc (Below.refl _ w) _⟩
theorem cut_nil {w : World} {n : Int} : Calls Try.prog 21 #[.pointer none, .int .i64 n] w fun e w' => e = .returned (.int .i64 9) ∧ Below w.heap.size w w' := by
  go_enter Try.func21, Try.ntmps21
  go_wp2
  go_ret
  exact ⟨rfl, below_alloc (below_alloc (Below.refl _ w) _) _⟩
theorem read_nil {w : World} : Calls Try.prog 12 #[.pointer none] w fun e w' => e = .returned (.slice none 0 0) ∧ w = w' := by
  go_enter Try.func12, Try.ntmps12
  go_wp2
  go_ret
  exact ⟨rfl, rfl⟩
theorem safe_nil {w : World} : Calls Try.prog 13 #[.pointer none] w fun e w' => e = .returned (.int .i64 0) ∧ w = w' := by
  go_enter Try.func13, Try.ntmps13
  go_wp2
  go_ret
  exact ⟨rfl, rfl⟩

set_option maxHeartbeats 400000 in
theorem nil_walk {w : World} {n : Int} {A : Option Addr} {c : Nat} {l : List UInt8} (_hn : (Lit.int .i64 n).wf = true) (_h : BSA w A c l) :
    Calls Try.prog 7 #[.int .i64 n, .slice A l.length c] w fun e w' => e = .returned (.bool true) ∧ Below w.heap.size w w' := by
  go_enter Try.func7, Try.ntmps7
  go_wp2_with fail
  refine fail_nil.mono ?_
  rintro e w0 ⟨rfl, rfl⟩
  go_wp2_with fail
  refine crash_nil.mono ?_
  rintro e w0 ⟨rfl, rfl⟩
  go_wp2_with fail
  refine keeps_any.mono ?_
  rintro e w1 ⟨rfl, b1⟩
  go_wp2_with fail
  refine append_nil.mono ?_
  rintro e w2 ⟨rfl, b2⟩
  go_wp2_with fail
  refine sync_nil.mono ?_
  rintro e w3 ⟨rfl, b3⟩
  go_wp2_with fail
  refine cut_nil.mono ?_
  rintro e w4 ⟨rfl, b4⟩
  go_wp2_with fail
  refine read_nil.mono ?_
  rintro e w5 ⟨rfl, rfl⟩
  go_wp2_with fail
  refine safe_nil.mono ?_
  rintro e w5 ⟨rfl, rfl⟩
  go_wp2
  go_ret
  exact ⟨rfl, below_then (below_then (below_then b1 b2) b3) b4⟩
end Go.Proofs.Ytlfimleciemobaa
