/- ShaOwn: what was handed in stays. -/
import Derived.Test.YtcigijgiejnodaaDoorAbc
set_option linter.unusedVariables false
set_option linter.unusedSimpArgs false
namespace Go.Proofs.YtcigijgiejnodaaDoor
open Go.RowKit PrintLast

set_option maxHeartbeats 1600000 in
theorem own_walk {w : World} (hT : Table w) {A : Option Addr} {c : Nat} {p : List UInt8} (hp : BSA w A c p) :
    Calls Tryd.prog 5 #[.slice A p.length c] w fun e w' => e = .returned (.bool true) ∧ Below w.heap.size w w' := by
  by_cases h : 200 < p.length
  · have t : decide ((200 : Int) < (p.length : Int)) = true := by simp; omega
    have HA := hid (abc_any hT)
    go_enter Tryd.func5, Tryd.ntmps5
    go_wp2_with fail
    refine HA.out.mono ?_
    rintro e w1 ⟨rfl, b1⟩
    go_wp2
    go_ret
    exact ⟨rfl, b1⟩
  · have t : decide ((200 : Int) < (p.length : Int)) = false := by simp; omega
    have hT' := hid hT
    have HJ := hid (join_any hp (BSA.nil w) (by simp; omega))
    clear hT
    go_enter Tryd.func5, Tryd.ntmps5
    go_wp2_with fail
    refine HJ.out.mono ?_
    rintro e w1 ⟨A1, c1, rfl, hM⟩
    have b1 := hM.2.2
    have q1 : BSA w1 A1 c1 p := by simpa using (own_bsa hM.1).2.2
    have HS := hid (sum_any (hT'.out.below b1) (hp.below b1) (by omega))
    clear HJ hM
    go_wp2_with fail
    refine HS.out.mono ?_
    rintro e w2 ⟨rfl, b2⟩
    have HA := hid (abc_any ((hT'.out.below b1).below b2))
    clear HS
    go_wp2_with fail
    refine HA.out.mono ?_
    rintro e w3 ⟨rfl, b3⟩
    have BB := bytes_any (((hp.below b1).below b2).below b3) ((q1.below b2).below b3)
    rw [show decide (p = p) = true by simp] at BB
    have HB := hid BB
    clear BB HA
    go_wp2_with fail
    refine HB.out.mono ?_
    rintro e w4 ⟨rfl, b4⟩
    have HS2 := hid (sum_any ((((hT'.out.below b1).below b2).below b3).below b4) ((((hp.below b1).below b2).below b3).below b4) (by omega))
    have tt : (((⟨(sum256 p).toArray⟩ : ByteArray).toList == (⟨(sum256 p).toArray⟩ : ByteArray).toList)) = true := by simp
    clear HB
    go_wp2_with fail
    refine HS2.out.mono ?_
    rintro e w5 ⟨rfl, b5⟩
    go_wp2
    go_ret
    exact ⟨rfl, below_then (below_then (below_then (below_then b1 b2) b3) b4) b5⟩
end Go.Proofs.YtcigijgiejnodaaDoor
