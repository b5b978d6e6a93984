/- MarkLeaf. -/
import Derived.Test.YthnkndeljlphjaaDoorLong
import Derived.Test.YthnkndeljlphjaaDoorOpen
set_option linter.unusedVariables false
set_option linter.unusedSimpArgs false
namespace Go.Proofs.YthnkndeljlphjaaDoor
open Go.RowKit Go.ChangeShapes Go.WideShapes Go.Deep PrintLast

set_option maxRecDepth 100000 in
set_option maxHeartbeats 6400000 in
theorem leaf_walk {w : World} (hT : Table w) {k : ByteArray} {A : Option Addr} {c : Nat} {r : List UInt8} (_hk : k.size ≤ 140737488351232) (p : BSA w A c r) :
    Calls Tryd.prog 4 #[.string k, .slice A r.length c] w fun e w' => e = .returned (.bool true) ∧ Below w.heap.size w w' := by
  by_cases h0 : 200 < k.size
  · have t0 : decide ((200 : Int) < (k.size : Int)) = true := by simp; omega
    have H := hid (long_any hT)
    go_enter Tryd.func4, Tryd.ntmps4
    go_wp2_with fail
    refine H.out.mono ?_
    rintro e w1 ⟨rfl, b1⟩
    go_wp2
    go_ret
    exact ⟨rfl, b1⟩
  · by_cases h1 : 200 < r.length
    · have t1 : decide ((200 : Int) < (r.length : Int)) = true := by simp; omega
      have t0 : decide ((200 : Int) < (k.size : Int)) = false := by simp; omega
      have H := hid (long_any hT)
      go_enter Tryd.func4, Tryd.ntmps4
      go_wp2_with fail
      refine H.out.mono ?_
      rintro e w1 ⟨rfl, b1⟩
      go_wp2
      go_ret
      exact ⟨rfl, b1⟩
    · have t0 : decide ((200 : Int) < (k.size : Int)) = false := by simp; omega
      have t1 : decide ((200 : Int) < (r.length : Int)) = false := by simp; omega
      have k0 : k.size ≤ 1000000 := by omega
      have r0 : r.length ≤ 1000000 := by omega
      obtain ⟨L, hL⟩ : ∃ L, Hid (L = leafB k.data.toList r) := ⟨_, hid rfl⟩
      have hLb : Hid (L.length ≤ 1000000000000) := hid (by rw [hL.out, leafB_length]; simp; omega)
      have E1 := same_str (dig L)
      have E2 : decide (L = L) = true := by simp
      go_enter Tryd.func4, Tryd.ntmps4
      have H := hid (long_any hT)
      go_wp2_with fail
      refine H.out.mono ?_
      rintro e w1 ⟨rfl, b1⟩
      have B1 : Below w.heap.size w w1 := b1
      replace p := p.below b1
      clear H b1
      have H := hid (leafBytes_any (w := w1) k0 r0 p)
      go_wp2_with fail
      refine H.out.mono ?_
      rintro e w2 ⟨Ara, cra, rfl, ra, b2⟩
      have B2 : Below w.heap.size w w2 := below_then B1 b2
      replace p := p.below b2
      clear H b2 B1
      rw [← hL.out] at ra ⊢
      have H := hid (rleafBytes_any (w := w2) k0 r0 p)
      go_wp2_with fail
      refine H.out.mono ?_
      rintro e w3 ⟨Arb, crb, rfl, rb, b3⟩
      have B3 : Below w.heap.size w w3 := below_then B2 b3
      replace p := p.below b3
      replace ra := ra.below b3
      clear H b3 B2
      rw [← hL.out] at rb ⊢
      have H := hid (bytes_any ra.bsa rb.bsa)
      go_wp2_with fail
      refine H.out.mono ?_
      rintro e w4 ⟨rfl, b4⟩
      have B4 : Below w.heap.size w w4 := below_then B3 b4
      replace p := p.below b4
      replace ra := ra.below b4
      replace rb := rb.below b4
      clear H b4 B3
      clear ra rb
      have H := hid (leaf_any (hT.below B4) k0 r0 p)
      go_wp2_with fail
      refine H.out.mono ?_
      rintro e w5 ⟨rfl, b5⟩
      have B5 : Below w.heap.size w w5 := below_then B4 b5
      replace p := p.below b5
      clear H b5 B4
      rw [← hL.out]
      have H := hid (rleafBytes_any (w := w5) k0 r0 p)
      go_wp2_with fail
      refine H.out.mono ?_
      rintro e w6 ⟨Arc, crc, rfl, rc, b6⟩
      have B6 : Below w.heap.size w w6 := below_then B5 b6
      replace p := p.below b6
      clear H b6 B5
      rw [← hL.out] at rc ⊢
      have H := hid (rsum_dig rfl rc.bsa hLb.out)
      go_wp2_with fail
      refine H.out.mono ?_
      rintro e w7 ⟨rfl, b7⟩
      have B7 : Below w.heap.size w w7 := below_then B6 b7
      replace p := p.below b7
      replace rc := rc.below b7
      clear H b7 B6
      clear rc
      go_wp2
      go_ret
      exact ⟨rfl, B7⟩
end Go.Proofs.YthnkndeljlphjaaDoor
