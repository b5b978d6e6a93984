/- The laws of the sums. -/
import Derived.Test.YtcigijgiejnodaaDoorShaI
import Derived.Test.YtcigijgiejnodaaDoorAbc
set_option linter.unusedVariables false
set_option linter.unusedSimpArgs false
namespace Go.Proofs.YtcigijgiejnodaaDoor
open Go.RowKit PrintLast

set_option maxHeartbeats 1600000 in
theorem sums_walk {w : World} (hT : Table w) {A : Option Addr} {c : Nat} {p : List UInt8} (hp : BSA w A c p) :
    Calls Tryd.prog 3 #[.slice A p.length c] w fun e w' => e = .returned (.bool true) ∧ Below w.heap.size w w' := by
  by_cases h : 300 < p.length
  · have t : decide ((300 : Int) < (p.length : Int)) = true := by simp; omega
    have HA := hid (abc_any hT)
    go_enter Tryd.func3, Tryd.ntmps3
    go_wp2_with fail
    refine HA.out.mono ?_
    rintro e w1 ⟨rfl, b1⟩
    go_wp2
    go_ret
    exact ⟨rfl, b1⟩
  · have t : decide ((300 : Int) < (p.length : Int)) = false := by simp; omega
    have HA := hid (abc_any hT)
    have hT' := hid hT
    clear hT
    go_enter Tryd.func3, Tryd.ntmps3
    go_wp2_with fail
    refine HA.out.mono ?_
    rintro e w1 ⟨rfl, b1⟩
    have HS := hid (sum_any (hT'.out.below b1) (hp.below b1) (by omega))
    go_wp2_with fail
    refine HS.out.mono ?_
    rintro e w2 ⟨rfl, b2⟩
    have HR := hid (rsum_any ((hp.below b1).below b2) (by omega))
    go_wp2_with fail
    refine HR.out.mono ?_
    rintro e w3 ⟨rfl, b3⟩
    have tt : (((⟨(sum256 p).toArray⟩ : ByteArray).toList == (⟨(sum256 p).toArray⟩ : ByteArray).toList)) = true := by simp
    go_wp2
    go_ret
    exact ⟨rfl, below_then (below_then b1 b2) b3⟩
end Go.Proofs.YtcigijgiejnodaaDoor
