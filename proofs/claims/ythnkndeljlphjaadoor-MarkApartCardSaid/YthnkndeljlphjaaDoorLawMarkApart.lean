/- MarkApart. -/
import Derived.Test.YthnkndeljlphjaaDoorLong
import Derived.Test.YthnkndeljlphjaaDoorOpen
set_option linter.unusedVariables false
set_option linter.unusedSimpArgs false
namespace Go.Proofs.YthnkndeljlphjaaDoor
open Go.RowKit Go.ChangeShapes Go.WideShapes Go.Deep PrintLast

theorem str_beq (a b : ByteArray) : (a.toList == b.toList) = decide (a.data.toList = b.data.toList) := by
  rw [ByteArray.toList_eq, ByteArray.toList_eq, Bool.eq_iff_iff]
  simp
theorem node_swap (x y : List UInt8) (h : x.length = y.length) : decide (nodeB x y = nodeB y x) = decide (x = y) := by
  rw [decide_eq_decide]
  constructor
  · intro e
    simp only [nodeB, List.cons.injEq, true_and] at e
    exact (List.append_inj e h).1
  · rintro rfl; rfl
theorem leaf_same (k p q : List UInt8) : decide (leafB k p = leafB k q) = decide (p = q) := by
  rw [decide_eq_decide]
  constructor
  · intro e
    simp only [leafB, List.cons.injEq, true_and] at e
    exact (List.append_inj e rfl).2
  · rintro rfl; rfl
theorem numBytes_inj {a b : Nat} (ha : a < 256) (hb : b < 256) (h : numBytes a 4 = numBytes b 4) : a = b := by
  have h3 : (numBytes a 4)[3]? = (numBytes b 4)[3]? := by rw [h]
  simp [numBytes] at h3
  have := congrArg UInt8.toNat h3
  simp at this
  omega
theorem leaf_apart (k l p q : List UInt8) (h : k ≠ l) (hk : k.length < 256) (hl : l.length < 256) : decide (leafB k p = leafB l q) = false := by
  rw [decide_eq_false_iff_not]
  intro e
  simp only [leafB, List.cons.injEq, true_and, List.append_assoc] at e
  have e1 := List.append_inj e (by rw [numBytes_length, numBytes_length])
  have e2 := numBytes_inj hk hl e1.1
  exact h (List.append_inj e1.2 e2).1

set_option maxRecDepth 100000 in
set_option maxHeartbeats 6400000 in
theorem apart_walk {w : World} (hT : Table w) {k l : ByteArray} {A1 : Option Addr} {c1 : Nat} {l1 : List UInt8} {A2 : Option Addr} {c2 : Nat} {l2 : List UInt8} {A3 : Option Addr} {c3 : Nat} {l3 : List UInt8} {A4 : Option Addr} {c4 : Nat} {l4 : List UInt8} (_hk : k.size ≤ 140737488351232) (_hl : l.size ≤ 140737488351232) (p1 : BSA w A1 c1 l1) (p2 : BSA w A2 c2 l2) (p3 : BSA w A3 c3 l3) (p4 : BSA w A4 c4 l4) :
    Calls Tryd.prog 6 #[.string k, .string l, .slice A1 l1.length c1, .slice A2 l2.length c2, .slice A3 l3.length c3, .slice A4 l4.length c4] w fun e w' => e = .returned (.bool true) ∧ Below w.heap.size w w' := by
  by_cases h0 : 60 < k.size
  · have t0 : decide ((60 : Int) < (k.size : Int)) = true := by simp; omega
    have H := hid (long_any hT)
    go_enter Tryd.func6, Tryd.ntmps6
    go_wp2_with fail
    refine H.out.mono ?_
    rintro e w1 ⟨rfl, b1⟩
    go_wp2
    go_ret
    exact ⟨rfl, b1⟩
  · by_cases h1 : 60 < l.size
    · have t1 : decide ((60 : Int) < (l.size : Int)) = true := by simp; omega
      have t0 : decide ((60 : Int) < (k.size : Int)) = false := by simp; omega
      have H := hid (long_any hT)
      go_enter Tryd.func6, Tryd.ntmps6
      go_wp2_with fail
      refine H.out.mono ?_
      rintro e w1 ⟨rfl, b1⟩
      go_wp2
      go_ret
      exact ⟨rfl, b1⟩
    · by_cases h2 : 60 < l1.length
      · have t2 : decide ((60 : Int) < (l1.length : Int)) = true := by simp; omega
        have t0 : decide ((60 : Int) < (k.size : Int)) = false := by simp; omega
        have t1 : decide ((60 : Int) < (l.size : Int)) = false := by simp; omega
        have H := hid (long_any hT)
        go_enter Tryd.func6, Tryd.ntmps6
        go_wp2_with fail
        refine H.out.mono ?_
        rintro e w1 ⟨rfl, b1⟩
        go_wp2
        go_ret
        exact ⟨rfl, b1⟩
      · by_cases h3 : 60 < l2.length
        · have t3 : decide ((60 : Int) < (l2.length : Int)) = true := by simp; omega
          have t0 : decide ((60 : Int) < (k.size : Int)) = false := by simp; omega
          have t1 : decide ((60 : Int) < (l.size : Int)) = false := by simp; omega
          have t2 : decide ((60 : Int) < (l1.length : Int)) = false := by simp; omega
          have H := hid (long_any hT)
          go_enter Tryd.func6, Tryd.ntmps6
          go_wp2_with fail
          refine H.out.mono ?_
          rintro e w1 ⟨rfl, b1⟩
          go_wp2
          go_ret
          exact ⟨rfl, b1⟩
        · by_cases h4 : 60 < l3.length
          · have t4 : decide ((60 : Int) < (l3.length : Int)) = true := by simp; omega
            have t0 : decide ((60 : Int) < (k.size : Int)) = false := by simp; omega
            have t1 : decide ((60 : Int) < (l.size : Int)) = false := by simp; omega
            have t2 : decide ((60 : Int) < (l1.length : Int)) = false := by simp; omega
            have t3 : decide ((60 : Int) < (l2.length : Int)) = false := by simp; omega
            have H := hid (long_any hT)
            go_enter Tryd.func6, Tryd.ntmps6
            go_wp2_with fail
            refine H.out.mono ?_
            rintro e w1 ⟨rfl, b1⟩
            go_wp2
            go_ret
            exact ⟨rfl, b1⟩
          · by_cases h5 : 60 < l4.length
            · have t5 : decide ((60 : Int) < (l4.length : Int)) = true := by simp; omega
              have t0 : decide ((60 : Int) < (k.size : Int)) = false := by simp; omega
              have t1 : decide ((60 : Int) < (l.size : Int)) = false := by simp; omega
              have t2 : decide ((60 : Int) < (l1.length : Int)) = false := by simp; omega
              have t3 : decide ((60 : Int) < (l2.length : Int)) = false := by simp; omega
              have t4 : decide ((60 : Int) < (l3.length : Int)) = false := by simp; omega
              have H := hid (long_any hT)
              go_enter Tryd.func6, Tryd.ntmps6
              go_wp2_with fail
              refine H.out.mono ?_
              rintro e w1 ⟨rfl, b1⟩
              go_wp2
              go_ret
              exact ⟨rfl, b1⟩
            · have t0 : decide ((60 : Int) < (k.size : Int)) = false := by simp; omega
              have t1 : decide ((60 : Int) < (l.size : Int)) = false := by simp; omega
              have t2 : decide ((60 : Int) < (l1.length : Int)) = false := by simp; omega
              have t3 : decide ((60 : Int) < (l2.length : Int)) = false := by simp; omega
              have t4 : decide ((60 : Int) < (l3.length : Int)) = false := by simp; omega
              have t5 : decide ((60 : Int) < (l4.length : Int)) = false := by simp; omega
              have k0 : k.size ≤ 1000000 := by omega
              have k1 : l.size ≤ 1000000 := by omega
              have r1 : l1.length ≤ 1000000 := by omega
              have r2 : l2.length ≤ 1000000 := by omega
              obtain ⟨X, hX⟩ : ∃ L, Hid (L = nodeB (sum256 l3) (sum256 l4)) := ⟨_, hid rfl⟩
              obtain ⟨Y, hY⟩ : ∃ L, Hid (L = nodeB (sum256 l4) (sum256 l3)) := ⟨_, hid rfl⟩
              obtain ⟨Z, hZ⟩ : ∃ L, Hid (L = linkB (sum256 l3) (sum256 l4) (sum256 l3)) := ⟨_, hid rfl⟩
              obtain ⟨v, hv⟩ : ∃ v, v = decide (sum256 l3 = sum256 l4) := ⟨_, rfl⟩
              have F2 : decide (X = Y) = v := by rw [hX.out, hY.out, hv]; exact node_swap _ _ (by rw [sum256_length, sum256_length])
              have S2 : ((dig l3).toList == (dig l4).toList) = v := by rw [str_beq, dig_list, dig_list, hv]
              have F5 : decide (Z = X) = false := by rw [hZ.out, hX.out]; simp [linkB, nodeB]
              by_cases hkl : k = l
              · subst hkl
                obtain ⟨L, hL⟩ : ∃ L, Hid (L = leafB k.data.toList l1) := ⟨_, hid rfl⟩
                obtain ⟨M, hM⟩ : ∃ L, Hid (L = leafB k.data.toList l2) := ⟨_, hid rfl⟩
                obtain ⟨u, hu⟩ : ∃ v, v = decide (l1 = l2) := ⟨_, rfl⟩
                have F1 : decide (L = M) = u := by rw [hL.out, hM.out, hu]; exact leaf_same _ _ _
                have F3 : decide (l1 = l2) = u := hu.symm
                have S1 := same_str k
                have F4 : decide (L = X) = false := by rw [hL.out, hX.out]; simp [leafB, nodeB]
                have F6 : decide (L = [0]) = false := by rw [hL.out]; simp [leafB]
                have U1 : (u == u) = true := by simp
                have U2 : (v == v) = true := by simp
                clear hu hv
                go_enter Tryd.func6, Tryd.ntmps6
                have H := hid (rsum_dig rfl p3 (by omega))
                go_wp2_with fail
                refine H.out.mono ?_
                rintro e w1 ⟨rfl, b1⟩
                have B1 : Below w.heap.size w w1 := b1
                replace p1 := p1.below b1
                replace p2 := p2.below b1
                replace p3 := p3.below b1
                replace p4 := p4.below b1
                clear H b1
                have H := hid (rsum_dig rfl p4 (by omega))
                go_wp2_with fail
                refine H.out.mono ?_
                rintro e w2 ⟨rfl, b2⟩
                have B2 : Below w.heap.size w w2 := below_then B1 b2
                replace p1 := p1.below b2
                replace p2 := p2.below b2
                replace p3 := p3.below b2
                replace p4 := p4.below b2
                clear H b2 B1
                have H := hid (leafBytes_any (w := w2) k0 r1 p1)
                go_wp2_with fail
                refine H.out.mono ?_
                rintro e w3 ⟨Ara, cra, rfl, ra, b3⟩
                have B3 : Below w.heap.size w w3 := below_then B2 b3
                replace p1 := p1.below b3
                replace p2 := p2.below b3
                replace p3 := p3.below b3
                replace p4 := p4.below b3
                clear H b3 B2
                rw [← hL.out] at ra ⊢
                have H := hid (leafBytes_any (w := w3) k0 r2 p2)
                go_wp2_with fail
                refine H.out.mono ?_
                rintro e w4 ⟨Arb, crb, rfl, rb, b4⟩
                have B4 : Below w.heap.size w w4 := below_then B3 b4
                replace p1 := p1.below b4
                replace p2 := p2.below b4
                replace p3 := p3.below b4
                replace p4 := p4.below b4
                replace ra := ra.below b4
                clear H b4 B3
                rw [← hM.out] at rb ⊢
                have H := hid (bytes_any ra.bsa rb.bsa)
                go_wp2_with fail
                refine H.out.mono ?_
                rintro e w5 ⟨rfl, b5⟩
                have B5 : Below w.heap.size w w5 := below_then B4 b5
                replace p1 := p1.below b5
                replace p2 := p2.below b5
                replace p3 := p3.below b5
                replace p4 := p4.below b5
                replace ra := ra.below b5
                replace rb := rb.below b5
                clear H b5 B4
                rw [F1]
                clear ra rb
                have H := hid (nodeBytes_any (w := w5) (a := dig l3) (b := dig l4) (by rw [dig_size]; omega) (by rw [dig_size]; omega))
                go_wp2_with fail
                refine H.out.mono ?_
                rintro e w6 ⟨Ara, cra, rfl, ra, b6⟩
                have B6 : Below w.heap.size w w6 := below_then B5 b6
                replace p1 := p1.below b6
                replace p2 := p2.below b6
                clear H b6 B5
                rw [dig_list, dig_list, ← hX.out] at ra
                rw [dig_list, dig_list, ← hX.out]
                have H := hid (nodeBytes_any (w := w6) (a := dig l4) (b := dig l3) (by rw [dig_size]; omega) (by rw [dig_size]; omega))
                go_wp2_with fail
                refine H.out.mono ?_
                rintro e w7 ⟨Arb, crb, rfl, rb, b7⟩
                have B7 : Below w.heap.size w w7 := below_then B6 b7
                replace p1 := p1.below b7
                replace p2 := p2.below b7
                replace ra := ra.below b7
                clear H b7 B6
                rw [dig_list, dig_list, ← hY.out] at rb
                rw [dig_list, dig_list, ← hY.out]
                have H := hid (bytes_any ra.bsa rb.bsa)
                go_wp2_with fail
                refine H.out.mono ?_
                rintro e w8 ⟨rfl, b8⟩
                have B8 : Below w.heap.size w w8 := below_then B7 b8
                replace p1 := p1.below b8
                replace p2 := p2.below b8
                replace ra := ra.below b8
                replace rb := rb.below b8
                clear H b8 B7
                rw [F2]
                clear ra rb
                have H := hid (long_any (hT.below B8))
                go_wp2_with fail
                refine H.out.mono ?_
                rintro e w9 ⟨rfl, b9⟩
                have B9 : Below w.heap.size w w9 := below_then B8 b9
                replace p1 := p1.below b9
                replace p2 := p2.below b9
                clear H b9 B8
                have H := hid (bytes_any p1 p2)
                go_wp2_with fail
                refine H.out.mono ?_
                rintro e w10 ⟨rfl, b10⟩
                have B10 : Below w.heap.size w w10 := below_then B9 b10
                replace p1 := p1.below b10
                replace p2 := p2.below b10
                clear H b10 B9
                rw [F3]
                have H := hid (leafBytes_any (w := w10) k0 r1 p1)
                go_wp2_with fail
                refine H.out.mono ?_
                rintro e w11 ⟨Ara, cra, rfl, ra, b11⟩
                have B11 : Below w.heap.size w w11 := below_then B10 b11
                replace p1 := p1.below b11
                clear H b11 B10
                rw [← hL.out] at ra ⊢
                have H := hid (nodeBytes_any (w := w11) (a := dig l3) (b := dig l4) (by rw [dig_size]; omega) (by rw [dig_size]; omega))
                go_wp2_with fail
                refine H.out.mono ?_
                rintro e w12 ⟨Arb, crb, rfl, rb, b12⟩
                have B12 : Below w.heap.size w w12 := below_then B11 b12
                replace p1 := p1.below b12
                replace ra := ra.below b12
                clear H b12 B11
                rw [dig_list, dig_list, ← hX.out] at rb
                rw [dig_list, dig_list, ← hX.out]
                have H := hid (bytes_any ra.bsa rb.bsa)
                go_wp2_with fail
                refine H.out.mono ?_
                rintro e w13 ⟨rfl, b13⟩
                have B13 : Below w.heap.size w w13 := below_then B12 b13
                replace p1 := p1.below b13
                replace ra := ra.below b13
                replace rb := rb.below b13
                clear H b13 B12
                rw [F4]
                clear ra rb
                have H := hid (linkBytes_any (w := w13) (a := dig l3) (b := dig l4) (c := dig l3) (by rw [dig_size]; omega) (by rw [dig_size]; omega) (by rw [dig_size]; omega))
                go_wp2_with fail
                refine H.out.mono ?_
                rintro e w14 ⟨Ara, cra, rfl, ra, b14⟩
                have B14 : Below w.heap.size w w14 := below_then B13 b14
                replace p1 := p1.below b14
                clear H b14 B13
                rw [dig_list, dig_list, ← hZ.out] at ra
                rw [dig_list, dig_list, ← hZ.out]
                have H := hid (nodeBytes_any (w := w14) (a := dig l3) (b := dig l4) (by rw [dig_size]; omega) (by rw [dig_size]; omega))
                go_wp2_with fail
                refine H.out.mono ?_
                rintro e w15 ⟨Arb, crb, rfl, rb, b15⟩
                have B15 : Below w.heap.size w w15 := below_then B14 b15
                replace p1 := p1.below b15
                replace ra := ra.below b15
                clear H b15 B14
                rw [dig_list, dig_list, ← hX.out] at rb
                rw [dig_list, dig_list, ← hX.out]
                have H := hid (bytes_any ra.bsa rb.bsa)
                go_wp2_with fail
                refine H.out.mono ?_
                rintro e w16 ⟨rfl, b16⟩
                have B16 : Below w.heap.size w w16 := below_then B15 b16
                replace p1 := p1.below b16
                replace ra := ra.below b16
                replace rb := rb.below b16
                clear H b16 B15
                rw [F5]
                clear ra rb
                have H := hid (leafBytes_any (w := w16) k0 r1 p1)
                go_wp2_with fail
                refine H.out.mono ?_
                rintro e w17 ⟨Ara, cra, rfl, ra, b17⟩
                have B17 : Below w.heap.size w w17 := below_then B16 b17
                replace p1 := p1.below b17
                clear H b17 B16
                rw [← hL.out] at ra ⊢
                have q0 := lits_bsa w17 [0] (by simp)
                have al1 := below_alloc (Below.refl _ w17) (.cells (bytesV [0]).toArray 5)
                have H := hid (bytes_any (ra.bsa.below al1) q0)
                have B9 := below_then B17 al1
                clear q0 ra al1 B17
                go_wp2_with fail
                refine H.out.mono ?_
                rintro e w99 ⟨rfl, b99⟩
                rw [F6]
                go_wp2
                go_ret
                exact ⟨rfl, below_then B9 b99⟩
              · skip
                obtain ⟨L, hL⟩ : ∃ L, Hid (L = leafB k.data.toList l1) := ⟨_, hid rfl⟩
                obtain ⟨M, hM⟩ : ∃ L, Hid (L = leafB l.data.toList l2) := ⟨_, hid rfl⟩
                have hdl : k.data.toList ≠ l.data.toList := fun e => hkl (ByteArray.ext (Array.toList_inj.1 e))
                have F1 : decide (L = M) = false := by rw [hL.out, hM.out]; exact leaf_apart _ _ _ _ hdl (by rw [bsz]; omega) (by rw [bsz]; omega)
                have S1 : (k.toList == l.toList) = false := by rw [str_beq]; simpa using hdl
                have F4 : decide (L = X) = false := by rw [hL.out, hX.out]; simp [leafB, nodeB]
                have F6 : decide (L = [0]) = false := by rw [hL.out]; simp [leafB]
                have U2 : (v == v) = true := by simp
                clear hv hdl
                go_enter Tryd.func6, Tryd.ntmps6
                have H := hid (rsum_dig rfl p3 (by omega))
                go_wp2_with fail
                refine H.out.mono ?_
                rintro e w1 ⟨rfl, b1⟩
                have B1 : Below w.heap.size w w1 := b1
                replace p1 := p1.below b1
                replace p2 := p2.below b1
                replace p3 := p3.below b1
                replace p4 := p4.below b1
                clear H b1
                have H := hid (rsum_dig rfl p4 (by omega))
                go_wp2_with fail
                refine H.out.mono ?_
                rintro e w2 ⟨rfl, b2⟩
                have B2 : Below w.heap.size w w2 := below_then B1 b2
                replace p1 := p1.below b2
                replace p2 := p2.below b2
                replace p3 := p3.below b2
                replace p4 := p4.below b2
                clear H b2 B1
                have H := hid (leafBytes_any (w := w2) k0 r1 p1)
                go_wp2_with fail
                refine H.out.mono ?_
                rintro e w3 ⟨Ara, cra, rfl, ra, b3⟩
                have B3 : Below w.heap.size w w3 := below_then B2 b3
                replace p1 := p1.below b3
                replace p2 := p2.below b3
                replace p3 := p3.below b3
                replace p4 := p4.below b3
                clear H b3 B2
                rw [← hL.out] at ra ⊢
                have H := hid (leafBytes_any (w := w3) k1 r2 p2)
                go_wp2_with fail
                refine H.out.mono ?_
                rintro e w4 ⟨Arb, crb, rfl, rb, b4⟩
                have B4 : Below w.heap.size w w4 := below_then B3 b4
                replace p1 := p1.below b4
                replace p2 := p2.below b4
                replace p3 := p3.below b4
                replace p4 := p4.below b4
                replace ra := ra.below b4
                clear H b4 B3
                rw [← hM.out] at rb ⊢
                have H := hid (bytes_any ra.bsa rb.bsa)
                go_wp2_with fail
                refine H.out.mono ?_
                rintro e w5 ⟨rfl, b5⟩
                have B5 : Below w.heap.size w w5 := below_then B4 b5
                replace p1 := p1.below b5
                replace p2 := p2.below b5
                replace p3 := p3.below b5
                replace p4 := p4.below b5
                replace ra := ra.below b5
                replace rb := rb.below b5
                clear H b5 B4
                rw [F1]
                clear ra rb
                have H := hid (nodeBytes_any (w := w5) (a := dig l3) (b := dig l4) (by rw [dig_size]; omega) (by rw [dig_size]; omega))
                go_wp2_with fail
                refine H.out.mono ?_
                rintro e w6 ⟨Ara, cra, rfl, ra, b6⟩
                have B6 : Below w.heap.size w w6 := below_then B5 b6
                replace p1 := p1.below b6
                replace p2 := p2.below b6
                clear H b6 B5
                rw [dig_list, dig_list, ← hX.out] at ra
                rw [dig_list, dig_list, ← hX.out]
                have H := hid (nodeBytes_any (w := w6) (a := dig l4) (b := dig l3) (by rw [dig_size]; omega) (by rw [dig_size]; omega))
                go_wp2_with fail
                refine H.out.mono ?_
                rintro e w7 ⟨Arb, crb, rfl, rb, b7⟩
                have B7 : Below w.heap.size w w7 := below_then B6 b7
                replace p1 := p1.below b7
                replace p2 := p2.below b7
                replace ra := ra.below b7
                clear H b7 B6
                rw [dig_list, dig_list, ← hY.out] at rb
                rw [dig_list, dig_list, ← hY.out]
                have H := hid (bytes_any ra.bsa rb.bsa)
                go_wp2_with fail
                refine H.out.mono ?_
                rintro e w8 ⟨rfl, b8⟩
                have B8 : Below w.heap.size w w8 := below_then B7 b8
                replace p1 := p1.below b8
                replace p2 := p2.below b8
                replace ra := ra.below b8
                replace rb := rb.below b8
                clear H b8 B7
                rw [F2]
                clear ra rb
                have H := hid (long_any (hT.below B8))
                go_wp2_with fail
                refine H.out.mono ?_
                rintro e w9 ⟨rfl, b9⟩
                have B9 : Below w.heap.size w w9 := below_then B8 b9
                replace p1 := p1.below b9
                replace p2 := p2.below b9
                clear H b9 B8
                have H := hid (leafBytes_any (w := w9) k0 r1 p1)
                go_wp2_with fail
                refine H.out.mono ?_
                rintro e w10 ⟨Ara, cra, rfl, ra, b10⟩
                have B10 : Below w.heap.size w w10 := below_then B9 b10
                replace p1 := p1.below b10
                clear H b10 B9
                rw [← hL.out] at ra ⊢
                have H := hid (nodeBytes_any (w := w10) (a := dig l3) (b := dig l4) (by rw [dig_size]; omega) (by rw [dig_size]; omega))
                go_wp2_with fail
                refine H.out.mono ?_
                rintro e w11 ⟨Arb, crb, rfl, rb, b11⟩
                have B11 : Below w.heap.size w w11 := below_then B10 b11
                replace p1 := p1.below b11
                replace ra := ra.below b11
                clear H b11 B10
                rw [dig_list, dig_list, ← hX.out] at rb
                rw [dig_list, dig_list, ← hX.out]
                have H := hid (bytes_any ra.bsa rb.bsa)
                go_wp2_with fail
                refine H.out.mono ?_
                rintro e w12 ⟨rfl, b12⟩
                have B12 : Below w.heap.size w w12 := below_then B11 b12
                replace p1 := p1.below b12
                replace ra := ra.below b12
                replace rb := rb.below b12
                clear H b12 B11
                rw [F4]
                clear ra rb
                have H := hid (linkBytes_any (w := w12) (a := dig l3) (b := dig l4) (c := dig l3) (by rw [dig_size]; omega) (by rw [dig_size]; omega) (by rw [dig_size]; omega))
                go_wp2_with fail
                refine H.out.mono ?_
                rintro e w13 ⟨Ara, cra, rfl, ra, b13⟩
                have B13 : Below w.heap.size w w13 := below_then B12 b13
                replace p1 := p1.below b13
                clear H b13 B12
                rw [dig_list, dig_list, ← hZ.out] at ra
                rw [dig_list, dig_list, ← hZ.out]
                have H := hid (nodeBytes_any (w := w13) (a := dig l3) (b := dig l4) (by rw [dig_size]; omega) (by rw [dig_size]; omega))
                go_wp2_with fail
                refine H.out.mono ?_
                rintro e w14 ⟨Arb, crb, rfl, rb, b14⟩
                have B14 : Below w.heap.size w w14 := below_then B13 b14
                replace p1 := p1.below b14
                replace ra := ra.below b14
                clear H b14 B13
                rw [dig_list, dig_list, ← hX.out] at rb
                rw [dig_list, dig_list, ← hX.out]
                have H := hid (bytes_any ra.bsa rb.bsa)
                go_wp2_with fail
                refine H.out.mono ?_
                rintro e w15 ⟨rfl, b15⟩
                have B15 : Below w.heap.size w w15 := below_then B14 b15
                replace p1 := p1.below b15
                replace ra := ra.below b15
                replace rb := rb.below b15
                clear H b15 B14
                rw [F5]
                clear ra rb
                have H := hid (leafBytes_any (w := w15) k0 r1 p1)
                go_wp2_with fail
                refine H.out.mono ?_
                rintro e w16 ⟨Ara, cra, rfl, ra, b16⟩
                have B16 : Below w.heap.size w w16 := below_then B15 b16
                replace p1 := p1.below b16
                clear H b16 B15
                rw [← hL.out] at ra ⊢
                have q0 := lits_bsa w16 [0] (by simp)
                have al1 := below_alloc (Below.refl _ w16) (.cells (bytesV [0]).toArray 5)
                have H := hid (bytes_any (ra.bsa.below al1) q0)
                have B9 := below_then B16 al1
                clear q0 ra al1 B16
                go_wp2_with fail
                refine H.out.mono ?_
                rintro e w99 ⟨rfl, b99⟩
                rw [F6]
                go_wp2
                go_ret
                exact ⟨rfl, below_then B9 b99⟩
end Go.Proofs.YthnkndeljlphjaaDoor
