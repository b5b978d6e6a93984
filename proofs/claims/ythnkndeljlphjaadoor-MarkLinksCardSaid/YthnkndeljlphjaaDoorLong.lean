/- The walk of the law's example. -/
import Derived.Test.YthnkndeljlphjaaDoorMarkB
set_option linter.unusedVariables false
set_option linter.unusedSimpArgs false
namespace Go.Proofs.YthnkndeljlphjaaDoor
open Go.RowKit PrintLast

theorem same_str (s : ByteArray) : (s.toList == s.toList) = true := by simp
set_option maxHeartbeats 1600000 in
theorem long_any {w : World} (hT : Table w) : Calls Tryd.prog 8 #[] w fun e w' => e = .returned (.bool true) ∧ Below w.heap.size w w' := by
  have E1 := same_str (dig [0])
  go_enter Tryd.func8, Tryd.ntmps8
  have H := hid (rsum_dig (n := 0) (A := none) (c := 0) rfl (BSA.nil w) (by simp))
  go_wp2_with fail
  refine H.out.mono ?_
  rintro e w1 ⟨rfl, b1⟩
  have B1 : Below w.heap.size w w1 := b1
  clear H b1
  have H := hid (nodeBytes_any (w := w1) (a := dig []) (b := dig []) (by rw [dig_size]; omega) (by rw [dig_size]; omega))
  go_wp2_with fail
  refine H.out.mono ?_
  rintro e w2 ⟨Ar, cr, rfl, r, b2⟩
  have B2 : Below w.heap.size w w2 := below_then B1 b2
  clear H b2 B1
  have l65 : (nodeB (dig []).data.toList (dig []).data.toList).length = 65 := by rw [nodeB_length, dig_list, sum256_length]
  rw [l65]
  obtain ⟨g, rfl⟩ := r.place (by rw [l65]; decide)
  have c0 := r.bsa.2.2.2 _ rfl 0 (by rw [l65]; decide)
  rw [add_plain] at c0
  replace c0 : w2.cell? ⟨g, 0, none⟩ = some (.int .u8 2) := c0
  have hc6 : 65 ≤ cr := by have := r.bsa.1; rw [l65] at this; exact this
  clear r l65
  have H := hid (empty_any (hT.below B2))
  go_wp2_with fail
  refine H.out.mono ?_
  rintro e w3 ⟨rfl, b3⟩
  have B3 : Below w.heap.size w w3 := below_then B2 b3
  clear H b3 B2
  have q0 := lits_bsa w3 [0] (by simp)
  have al1 := below_alloc (Below.refl _ w3) (.cells (bytesV [0]).toArray 5)
  have H := hid (rsum_dig (n := 1) rfl q0 (by simp))
  clear q0
  go_wp2_with fail
  refine H.out.mono ?_
  rintro e w4 ⟨rfl, b4⟩
  go_wp2
  go_ret
  exact ⟨rfl, below_then (below_then B3 al1) b4⟩
end Go.Proofs.YthnkndeljlphjaaDoor
