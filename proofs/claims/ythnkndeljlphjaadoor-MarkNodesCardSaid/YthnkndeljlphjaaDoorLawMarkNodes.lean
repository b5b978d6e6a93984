/- MarkNodes. -/
import Derived.Test.YthnkndeljlphjaaDoorLong
import Derived.Test.YthnkndeljlphjaaDoorOpen
set_option linter.unusedVariables false
set_option linter.unusedSimpArgs false
namespace Go.Proofs.YthnkndeljlphjaaDoor
open Go.RowKit Go.ChangeShapes Go.WideShapes Go.Deep PrintLast

set_option maxRecDepth 100000 in
set_option maxHeartbeats 6400000 in
theorem nodes_walk {w : World} (hT : Table w) {A1 : Option Addr} {c1 : Nat} {l1 : List UInt8} {A2 : Option Addr} {c2 : Nat} {l2 : List UInt8} {A3 : Option Addr} {c3 : Nat} {l3 : List UInt8} {A4 : Option Addr} {c4 : Nat} {l4 : List UInt8} (p1 : BSA w A1 c1 l1) (p2 : BSA w A2 c2 l2) (p3 : BSA w A3 c3 l3) (p4 : BSA w A4 c4 l4) :
    Calls Tryd.prog 5 #[.slice A1 l1.length c1, .slice A2 l2.length c2, .slice A3 l3.length c3, .slice A4 l4.length c4] w fun e w' => e = .returned (.bool true) ∧ Below w.heap.size w w' := by
  by_cases h0 : 100 < l1.length
  · have t0 : decide ((100 : Int) < (l1.length : Int)) = true := by simp; omega
    have H := hid (long_any hT)
    go_enter Tryd.func5, Tryd.ntmps5
    go_wp2_with fail
    refine H.out.mono ?_
    rintro e w1 ⟨rfl, b1⟩
    go_wp2
    go_ret
    exact ⟨rfl, b1⟩
  · by_cases h1 : 100 < l2.length
    · have t1 : decide ((100 : Int) < (l2.length : Int)) = true := by simp; omega
      have t0 : decide ((100 : Int) < (l1.length : Int)) = false := by simp; omega
      have H := hid (long_any hT)
      go_enter Tryd.func5, Tryd.ntmps5
      go_wp2_with fail
      refine H.out.mono ?_
      rintro e w1 ⟨rfl, b1⟩
      go_wp2
      go_ret
      exact ⟨rfl, b1⟩
    · by_cases h2 : 100 < l3.length
      · have t2 : decide ((100 : Int) < (l3.length : Int)) = true := by simp; omega
        have t0 : decide ((100 : Int) < (l1.length : Int)) = false := by simp; omega
        have t1 : decide ((100 : Int) < (l2.length : Int)) = false := by simp; omega
        have H := hid (long_any hT)
        go_enter Tryd.func5, Tryd.ntmps5
        go_wp2_with fail
        refine H.out.mono ?_
        rintro e w1 ⟨rfl, b1⟩
        go_wp2
        go_ret
        exact ⟨rfl, b1⟩
      · by_cases h3 : 100 < l4.length
        · have t3 : decide ((100 : Int) < (l4.length : Int)) = true := by simp; omega
          have t0 : decide ((100 : Int) < (l1.length : Int)) = false := by simp; omega
          have t1 : decide ((100 : Int) < (l2.length : Int)) = false := by simp; omega
          have t2 : decide ((100 : Int) < (l3.length : Int)) = false := by simp; omega
          have H := hid (long_any hT)
          go_enter Tryd.func5, Tryd.ntmps5
          go_wp2_with fail
          refine H.out.mono ?_
          rintro e w1 ⟨rfl, b1⟩
          go_wp2
          go_ret
          exact ⟨rfl, b1⟩
        · have t0 : decide ((100 : Int) < (l1.length : Int)) = false := by simp; omega
          have t1 : decide ((100 : Int) < (l2.length : Int)) = false := by simp; omega
          have t2 : decide ((100 : Int) < (l3.length : Int)) = false := by simp; omega
          have t3 : decide ((100 : Int) < (l4.length : Int)) = false := by simp; omega
          obtain ⟨L, hL⟩ : ∃ L, Hid (L = nodeB (sum256 l1) (sum256 l2)) := ⟨_, hid rfl⟩
          obtain ⟨M, hM⟩ : ∃ L, Hid (L = linkB (sum256 l1) (sum256 l2) (sum256 l3)) := ⟨_, hid rfl⟩
          have hLb : Hid (L.length ≤ 1000000000000) := hid (by rw [hL.out, nodeB_length, sum256_length, sum256_length]; omega)
          have E1 := same_str (dig L)
          have E2 : decide (L = L) = true := by simp
          have E3 : decide (M = M) = true := by simp
          have E4 := same_str (dig (linkB (dig l1).data.toList (dig l2).data.toList (sum256 l4)))
          go_enter Tryd.func5, Tryd.ntmps5
          have H := hid (rsum_dig rfl p1 (by omega))
          go_wp2_with fail
          refine H.out.mono ?_
          rintro e w1 ⟨rfl, b1⟩
          have B1 : Below w.heap.size w w1 := b1
          replace p1 := p1.below b1
          replace p2 := p2.below b1
          replace p3 := p3.below b1
          replace p4 := p4.below b1
          clear H b1
          have H := hid (rsum_dig rfl p2 (by omega))
          go_wp2_with fail
          refine H.out.mono ?_
          rintro e w2 ⟨rfl, b2⟩
          have B2 : Below w.heap.size w w2 := below_then B1 b2
          replace p1 := p1.below b2
          replace p2 := p2.below b2
          replace p3 := p3.below b2
          replace p4 := p4.below b2
          clear H b2 B1
          have H := hid (rsum_dig rfl p3 (by omega))
          go_wp2_with fail
          refine H.out.mono ?_
          rintro e w3 ⟨rfl, b3⟩
          have B3 : Below w.heap.size w w3 := below_then B2 b3
          replace p1 := p1.below b3
          replace p2 := p2.below b3
          replace p3 := p3.below b3
          replace p4 := p4.below b3
          clear H b3 B2
          have H := hid (long_any (hT.below B3))
          go_wp2_with fail
          refine H.out.mono ?_
          rintro e w4 ⟨rfl, b4⟩
          have B4 : Below w.heap.size w w4 := below_then B3 b4
          replace p1 := p1.below b4
          replace p2 := p2.below b4
          replace p3 := p3.below b4
          replace p4 := p4.below b4
          clear H b4 B3
          have H := hid (nodeBytes_any (w := w4) (a := dig l1) (b := dig l2) (by rw [dig_size]; omega) (by rw [dig_size]; omega))
          go_wp2_with fail
          refine H.out.mono ?_
          rintro e w5 ⟨Ara, cra, rfl, ra, b5⟩
          have B5 : Below w.heap.size w w5 := below_then B4 b5
          replace p1 := p1.below b5
          replace p2 := p2.below b5
          replace p3 := p3.below b5
          replace p4 := p4.below b5
          clear H b5 B4
          rw [dig_list, dig_list, ← hL.out] at ra
          rw [dig_list, dig_list, ← hL.out]
          have H := hid (rnodeBytes_any (w := w5) (a := dig l1) (b := dig l2) (by rw [dig_size]; omega) (by rw [dig_size]; omega))
          go_wp2_with fail
          refine H.out.mono ?_
          rintro e w6 ⟨Arb, crb, rfl, rb, b6⟩
          have B6 : Below w.heap.size w w6 := below_then B5 b6
          replace p1 := p1.below b6
          replace p2 := p2.below b6
          replace p3 := p3.below b6
          replace p4 := p4.below b6
          replace ra := ra.below b6
          clear H b6 B5
          rw [dig_list, dig_list, ← hL.out] at rb
          rw [dig_list, dig_list, ← hL.out]
          have H := hid (bytes_any ra.bsa rb)
          go_wp2_with fail
          refine H.out.mono ?_
          rintro e w7 ⟨rfl, b7⟩
          have B7 : Below w.heap.size w w7 := below_then B6 b7
          replace p1 := p1.below b7
          replace p2 := p2.below b7
          replace p3 := p3.below b7
          replace p4 := p4.below b7
          replace ra := ra.below b7
          replace rb := rb.below b7
          clear H b7 B6
          clear ra rb
          have H := hid (linkBytes_any (w := w7) (a := dig l1) (b := dig l2) (c := dig l3) (by rw [dig_size]; omega) (by rw [dig_size]; omega) (by rw [dig_size]; omega))
          go_wp2_with fail
          refine H.out.mono ?_
          rintro e w8 ⟨Arc, crc, rfl, rc, b8⟩
          have B8 : Below w.heap.size w w8 := below_then B7 b8
          replace p1 := p1.below b8
          replace p2 := p2.below b8
          replace p3 := p3.below b8
          replace p4 := p4.below b8
          clear H b8 B7
          rw [dig_list, dig_list, dig_list, ← hM.out] at rc
          rw [dig_list, dig_list, dig_list, ← hM.out]
          have H := hid (rlinkBytes_any (w := w8) (a := dig l1) (b := dig l2) (d := dig l3) (by rw [dig_size]; omega) (by rw [dig_size]; omega) (by rw [dig_size]; omega))
          go_wp2_with fail
          refine H.out.mono ?_
          rintro e w9 ⟨Ard, crd, rfl, rd, b9⟩
          have B9 : Below w.heap.size w w9 := below_then B8 b9
          replace p1 := p1.below b9
          replace p2 := p2.below b9
          replace p3 := p3.below b9
          replace p4 := p4.below b9
          replace rc := rc.below b9
          clear H b9 B8
          rw [dig_list, dig_list, dig_list, ← hM.out] at rd
          rw [dig_list, dig_list, dig_list, ← hM.out]
          have H := hid (bytes_any rc.bsa rd)
          go_wp2_with fail
          refine H.out.mono ?_
          rintro e w10 ⟨rfl, b10⟩
          have B10 : Below w.heap.size w w10 := below_then B9 b10
          replace p1 := p1.below b10
          replace p2 := p2.below b10
          replace p3 := p3.below b10
          replace p4 := p4.below b10
          replace rc := rc.below b10
          replace rd := rd.below b10
          clear H b10 B9
          clear rc rd
          have H := hid (node_any (hT.below B10) (a := dig l1) (b := dig l2) (by rw [dig_size]; omega) (by rw [dig_size]; omega))
          go_wp2_with fail
          refine H.out.mono ?_
          rintro e w11 ⟨rfl, b11⟩
          have B11 : Below w.heap.size w w11 := below_then B10 b11
          replace p4 := p4.below b11
          clear H b11 B10
          rw [dig_list, dig_list, ← hL.out]
          have H := hid (rnodeBytes_any (w := w11) (a := dig l1) (b := dig l2) (by rw [dig_size]; omega) (by rw [dig_size]; omega))
          go_wp2_with fail
          refine H.out.mono ?_
          rintro e w12 ⟨Are, cre, rfl, re, b12⟩
          have B12 : Below w.heap.size w w12 := below_then B11 b12
          replace p4 := p4.below b12
          clear H b12 B11
          rw [dig_list, dig_list, ← hL.out] at re
          rw [dig_list, dig_list, ← hL.out]
          have H := hid (rsum_dig rfl re hLb.out)
          go_wp2_with fail
          refine H.out.mono ?_
          rintro e w13 ⟨rfl, b13⟩
          have B13 : Below w.heap.size w w13 := below_then B12 b13
          replace p4 := p4.below b13
          replace re := re.below b13
          clear H b13 B12
          clear re
          have H := hid (link_any (hT.below B13) (a := dig l1) (b := dig l2) (by rw [dig_size]; omega) (by rw [dig_size]; omega) (by omega) p4)
          go_wp2_with fail
          refine H.out.mono ?_
          rintro e w14 ⟨rfl, b14⟩
          have B14 : Below w.heap.size w w14 := below_then B13 b14
          replace p4 := p4.below b14
          clear H b14 B13
          have H := hid (rlink_any (a := dig l1) (b := dig l2) (by rw [dig_size]; omega) (by rw [dig_size]; omega) (by omega) p4)
          go_wp2_with fail
          refine H.out.mono ?_
          rintro e w15 ⟨rfl, b15⟩
          have B15 : Below w.heap.size w w15 := below_then B14 b15
          replace p4 := p4.below b15
          clear H b15 B14
          go_wp2
          go_ret
          exact ⟨rfl, B15⟩
end Go.Proofs.YthnkndeljlphjaaDoor
