/- The walk of the law's example. -/
import Derived.Test.YtcigijgiejnodaaDoorShaG
import Derived.Test.YtcigijgiejnodaaDoorShaK
import Derived.Test.YtcigijgiejnodaaDoorHex
import Derived.Lib.SlBytesConst
set_option linter.unusedVariables false
set_option linter.unusedSimpArgs false
namespace Go.Proofs.YtcigijgiejnodaaDoor
open Go.RowKit PrintLast

theorem three_bsa (w : World) : BSA (w.alloc (.cells #[.int .u8 97, .int .u8 98, .int .u8 99] 5 (3, 4))) (some ⟨w.heap.size, 0, none⟩) 3 [97, 98, 99] := by
  refine ⟨by simp, by unfold maxLen; omega, (fun e => by cases e), fun ad e j hj => ?_⟩
  cases e
  rw [add_plain]
  have hj3 : j = 0 ∨ j = 1 ∨ j = 2 := by simp at hj; omega
  rcases hj3 with rfl | rfl | rfl
  all_goals exact cell_at (heap_alloc_new w _) rfl

set_option maxHeartbeats 1600000 in
theorem abc_any {w : World} (hT : Table w) : Calls Tryd.prog 8 #[] w fun e w' => e = .returned (.bool true) ∧ Below w.heap.size w w' := by
  have al := below_alloc (Below.refl _ w) (.cells #[.int .u8 97, .int .u8 98, .int .u8 99] 5 (3, 4))
  have HS := sum_any (hT.below al) (three_bsa w) (by simp)
  rw [abc_bytes] at HS
  have HS' := hid HS
  have HX : ∀ w : World, Calls Tryd.prog 15 #[.string ⟨#[186, 15]⟩] w fun e w' => e = .returned (.string ⟨#[98, 97, 48, 102]⟩) ∧ Below w.heap.size w w' := fun w => hex_any (s := ⟨#[186, 15]⟩) (by decide)
  have K4 : (((⟨#[186, 120, 22, 191, 143, 1, 207, 234, 65, 65, 64, 222, 93, 174, 34, 35, 176, 3, 97, 163, 150, 23, 122, 156, 180, 16, 255, 97, 242, 0, 21, 173]⟩ : ByteArray).extract 0 4).toList == [186, 120, 22, 191]) = true := by decide +kernel
  clear HS hT
  go_enter Tryd.func8, Tryd.ntmps8
  have kc := fun (w : World) (C : Array Value) (n c : Nat) => Lib.run_convert_bytes_const (P := Tryd.prog) w 22 5 C n c Tryd.underlying22 Tryd.underlying5
  go_wp2_with fail
  refine HS'.out.mono ?_
  rintro e w1 ⟨rfl, b1⟩
  clear HS'
  go_wp2_with fail
  refine (HX _).mono ?_
  rintro e w2 ⟨rfl, b2⟩
  go_wp2
  go_ret
  exact ⟨rfl, al.trans (b1.mono al.size |>.trans (b2.mono (Nat.le_trans al.size b1.size)))⟩
end Go.Proofs.YtcigijgiejnodaaDoor
