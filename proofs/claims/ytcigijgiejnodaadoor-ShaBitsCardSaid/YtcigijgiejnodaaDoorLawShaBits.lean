/- ShaBits: bit by bit, from the highest on; digits. -/
import Derived.Test.YtcigijgiejnodaaDoorAbc
import Derived.Test.YtcigijgiejnodaaDoorOpen
import Derived.Test.YtcigijgiejnodaaDoorBit
import Derived.Test.YtcigijgiejnodaaDoorRHex
set_option linter.unusedVariables false
set_option linter.unusedSimpArgs false
namespace Go.Proofs.YtcigijgiejnodaaDoor
open Go.RowKit Go.ChangeShapes Go.WideShapes Go.Deep PrintLast

theorem tmod_bd (z m : Int) (h : 0 < m) : -m < z.tmod m ∧ z.tmod m < m := by
  by_cases hz : 0 ≤ z
  · rw [Int.tmod_eq_emod_of_nonneg hz]
    have h1 := Int.emod_nonneg z (show m ≠ 0 by omega)
    have h2 := Int.emod_lt_of_pos z h
    omega
  · have e : z.tmod m = -((-z).tmod m) := by rw [Int.neg_tmod]; omega
    rw [e, Int.tmod_eq_emod_of_nonneg (by omega)]
    have h1 := Int.emod_nonneg (-z) (show m ≠ 0 by omega)
    have h2 := Int.emod_lt_of_pos (-z) h
    omega

set_option maxHeartbeats 1600000 in
theorem bits_walk {w : World} (hT : Table w) {s : ByteArray} {i : Int} (_hs : s.size ≤ 140737488351232) (hi : (Lit.int .i64 i).wf = true) :
    Calls Tryd.prog 7 #[.string s, .int .i64 i] w fun e w' => e = .returned (.bool true) ∧ Below w.heap.size w w' := by
  have hb := bounds_i64 hi
  have hz : (s.size : Int) = (s.data.toList.length : Int) := by simp
  by_cases h : 100 < s.size
  · have t : decide ((100 : Int) < (s.size : Int)) = true := by simp; omega
    have HA := hid (abc_any hT)
    go_enter Tryd.func7, Tryd.ntmps7
    go_wp2_with fail
    refine HA.out.mono ?_
    rintro e w1 ⟨rfl, b1⟩
    go_wp2
    go_ret
    exact ⟨rfl, b1⟩
  · have t : decide ((100 : Int) < (s.size : Int)) = false := by simp; omega
    have hl : s.data.toList.length ≤ 1000000000 := by omega
    have HA := hid (abc_any hT)
    have hk := tmod_bd i 900 (by omega)
    have B1 := fun w : World => bit_any (w := w) hl (show -9223372036854775808 ≤ i ∧ i ≤ 9223372036854775807 from ⟨by omega, by omega⟩)
    have B2 := fun w : World => rbit_any (w := w) hl (show -9223372036854775808 ≤ i ∧ i ≤ 9223372036854775807 from ⟨by omega, by omega⟩)
    have B3 := fun w : World => bit_any (w := w) hl (show -9223372036854775808 ≤ i.tmod 900 ∧ i.tmod 900 ≤ 9223372036854775807 from ⟨by omega, by omega⟩)
    have B4 := fun w : World => rbit_any (w := w) hl (show -9223372036854775808 ≤ i.tmod 900 ∧ i.tmod 900 ≤ 9223372036854775807 from ⟨by omega, by omega⟩)
    have H1 := fun w : World => hex_any (w := w) hl
    have H2 := fun w : World => rhex_any (w := w) hl
    obtain ⟨b1, hb1⟩ : ∃ b, b = bitOf s.data.toList i := ⟨_, rfl⟩
    obtain ⟨b2, hb2⟩ : ∃ b, b = bitOf s.data.toList (i.tmod 900) := ⟨_, rfl⟩
    obtain ⟨hx, hhx⟩ : ∃ b, b = hexOf s.data.toList := ⟨_, rfl⟩
    rw [← hb1] at B1 B2
    rw [← hb2] at B3 B4
    rw [← hhx] at H1 H2
    have t1 : (b1 == b1) = true := by simp
    have t2 : (b2 == b2) = true := by simp
    have t3 : (((⟨hx.toArray⟩ : ByteArray).toList == (⟨hx.toArray⟩ : ByteArray).toList)) = true := by simp
    clear hb1 hb2 hhx hz
    go_enter Tryd.func7, Tryd.ntmps7
    go_wp2_with fail
    refine HA.out.mono ?_
    rintro e w1 ⟨rfl, q1⟩
    go_wp2_with fail
    refine (B1 _).mono ?_
    rintro e w2 ⟨rfl, rfl⟩
    go_wp2_with fail
    refine (B2 _).mono ?_
    rintro e w2 ⟨rfl, rfl⟩
    go_wp2_with fail
    refine (B3 _).mono ?_
    rintro e w2 ⟨rfl, rfl⟩
    go_wp2_with fail
    refine (B4 _).mono ?_
    rintro e w2 ⟨rfl, rfl⟩
    go_wp2_with fail
    refine (H1 _).mono ?_
    rintro e w3 ⟨rfl, q3⟩
    go_wp2_with fail
    refine (H2 _).mono ?_
    rintro e w4 ⟨rfl, q4⟩
    go_wp2
    go_ret
    exact ⟨rfl, below_then (below_then q1 q3) q4⟩
end Go.Proofs.YtcigijgiejnodaaDoor
