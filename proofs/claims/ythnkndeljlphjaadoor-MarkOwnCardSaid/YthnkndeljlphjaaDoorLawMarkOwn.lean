/- MarkOwn: what was handed in stays, and may be written over. -/
import Derived.Test.YthnkndeljlphjaaDoorLong
import Derived.Test.YthnkndeljlphjaaDoorOpen
import Derived.Test.YthnkndeljlphjaaDoorMade
set_option linter.unusedVariables false
set_option linter.unusedSimpArgs false
namespace Go.Proofs.YthnkndeljlphjaaDoor
open Go.RowKit Go.ChangeShapes Go.WideShapes Go.Deep PrintLast

theorem Row.from_ {w : World} {B c : Nat} {A : Option Addr} {l : List UInt8} (h : Row w B A c l) : ∀ ad, A = some ad → B ≤ ad.block ∧ ad.block < w.heap.size := fun ad e => by
  subst e
  exact h.lt ad.block rfl
theorem cellKeeps (w : World) (g k : Nat) (u : Value) : Keeps (fun j => j = g) w (w.setCell ⟨g, k, none⟩ u) := (Keeps.refl (fun j => j = g) w).setCell (p := ⟨g, k, none⟩) (fun _ => rfl) u

set_option maxRecDepth 100000 in
set_option maxHeartbeats 6400000 in
theorem own_walk {w : World} (hT : Table w) {k : ByteArray} {A : Option Addr} {c : Nat} {r : List UInt8} {b : Int} (_hk : k.size ≤ 140737488351232) (p : BSA w A c r) (hb : (Lit.int .u8 b).wf = true) :
    Calls Tryd.prog 3 #[.string k, .slice A r.length c, .int .u8 b] w fun e w' => e = .returned (.bool true) ∧ Below w.heap.size w w' := by
  obtain ⟨b, rfl⟩ : ∃ b8 : UInt8, b = (b8.toNat : Int) := ⟨UInt8.ofNat b.toNat, (u8_of_int hb).symm⟩
  clear hb
  by_cases h0 : 60 < k.size
  · have t0 : decide ((60 : Int) < (k.size : Int)) = true := by simp; omega
    have H := hid (long_any hT)
    go_enter Tryd.func3, Tryd.ntmps3
    go_wp2_with fail
    refine H.out.mono ?_
    rintro e w1 ⟨rfl, b1⟩
    go_wp2
    go_ret
    exact ⟨rfl, b1⟩
  · by_cases h1 : 60 < r.length
    · have t0 : decide ((60 : Int) < (k.size : Int)) = false := by simp; omega
      have t1 : decide ((60 : Int) < (r.length : Int)) = true := by simp; omega
      have H := hid (long_any hT)
      go_enter Tryd.func3, Tryd.ntmps3
      go_wp2_with fail
      refine H.out.mono ?_
      rintro e w1 ⟨rfl, b1⟩
      go_wp2
      go_ret
      exact ⟨rfl, b1⟩
    · have t0 : decide ((60 : Int) < (k.size : Int)) = false := by simp; omega
      have t1 : decide ((60 : Int) < (r.length : Int)) = false := by simp; omega
      have k0 : k.size ≤ 1000000 := by omega
      have r0 : r.length ≤ 1000000 := by omega
      have hTH := hid hT
      clear hT
      obtain ⟨L, hL⟩ : ∃ L, Hid (L = leafB k.data.toList r) := ⟨_, hid rfl⟩
      have hLb : Hid (L.length ≤ 1000000000000) := hid (by rw [hL.out, leafB_length]; simp; omega)
      have E2 : decide (L = L) = true := by simp
      have H := hid (join_gave (n1 := r.length) (n2 := 0) rfl rfl (List.append_nil r) p (BSA.nil w) (by omega))
      go_enter Tryd.func3, Tryd.ntmps3
      go_wp2_with fail
      refine H.out.mono ?_
      rintro e w1 ⟨Aq, cq, rfl, rq, b1⟩
      have H := hid (leafBytes_any (w := w1) k0 r0 rq.bsa)
      go_wp2_with fail
      refine H.out.mono ?_
      rintro e w2 ⟨Ap, cp, rfl, rp, b2⟩
      rw [← hL.out] at rp ⊢
      have H := hid (join_gave (n1 := L.length) (n2 := 0) rfl rfl (List.append_nil L) rp.bsa (BSA.nil w2) hLb.out)
      go_wp2_with fail
      refine H.out.mono ?_
      rintro e w3 ⟨Aw, cw, rfl, rw', b3⟩
      have q1 : ∀ ad, Aq = some ad → w.heap.size ≤ ad.block ∧ ad.block < w1.heap.size := rq.from_
      have B2 := below_then b1 b2
      have B3 := below_then B2 b3
      have s2 := b2.size
      obtain ⟨G, hG⟩ : ∃ G, G = w1.heap.size := ⟨_, rfl⟩
      rw [← hG] at q1 rp
      have rp3 := rp.below b3
      have rw3 : Row w3 G Aw cw L := rw'.lower (by omega)
      have rq3 := (rq.below b2).below b3
      obtain ⟨n, hn⟩ : ∃ n, n = r.length := ⟨_, rfl⟩
      have HN := hid hn
      have n60 : n ≤ 1000000 := by omega
      have Q3 : ∃ ys : List UInt8, Hid (ys.length = n) ∧ Row w3 w.heap.size Aq cq ys := ⟨r, hid hn.symm, rq3⟩
      rw [← hn]
      have Q1 := hid q1
      clear H rq rp rw' b1 b2 b3 B2 rq3 hn q1 hG s2 h0 h1
      go_wp2
      go_loopw [10] (fun i wr => ∃ j : Nat, j ≤ n ∧ i = .int .i64 j ∧ (∃ ys : List UInt8, Hid (ys.length = n) ∧ Row wr w.heap.size Aq cq ys) ∧ Row wr G Ap cp L ∧ Row wr G Aw cw L ∧ Below w.heap.size w wr) (fun i _ => n - (intOf i).toNat)
      case atStart => exact ⟨0, Nat.zero_le _, rfl, Q3, rp3, rw3, B3⟩
      case round =>
        clear Q3 rp3 rw3 B3
        obtain ⟨j, hj, rfl, ⟨ys, hys, hR⟩, hP, hW, hB⟩ := hrel
        by_cases hlt : j < n
        · obtain ⟨g, rfl⟩ := hR.place (by rw [hys.out]; omega)
          obtain ⟨cur, hg, hc, _⟩ := hR.heap
          rw [hys.out] at hc
          have c0 := cell_at hg (i := j) (v := cur[j]) (by simp)
          have f0 := free_at hg j
          have R1 := hid (hR.set j b)
          have KK := cellKeeps wr g j (.int .u8 (b.toNat : Int))
          have gb := Q1.out _ rfl
          have HB := hid (hB.setCell (p := ⟨g, j, none⟩) gb.1 (.int .u8 (b.toNat : Int)))
          have HP := hid (hP.keeps KK (fun ad e e' => by have := (hP.from_ ad e).1; have := gb.2; subst e'; simp at this; omega))
          have HW := hid (hW.keeps KK (fun ad e e' => by have := (hW.from_ ad e).1; have := gb.2; subst e'; simp at this; omega))
          have HY : Hid ((ys.set j b).length = n) := hid (by rw [List.length_set]; exact hys.out)
          clear hR hP hW hB hg KK gb hys
          go_wp2
          go_roundw
          case rel => exact ⟨j + 1, by omega, by go_num, ⟨_, HY, R1.out⟩, HP.out, HW.out, HB.out⟩
          case measure => simp [intOf]; omega
        · have p' := p.below hB
          have H := hid (long_any (hTH.out.below hB))
          go_wp2_with fail
          refine H.out.mono ?_
          rintro e w5 ⟨rfl, b5⟩
          have B5 := below_then hB b5
          replace p' := p'.below b5
          have H := hid (bytes_any (hP.bsa.below b5) (hW.bsa.below b5))
          have hP5 := hP.below b5
          clear hW hP hR b5 hB
          go_wp2_with fail
          refine H.out.mono ?_
          rintro e w6 ⟨rfl, b6⟩
          have B6 := below_then B5 b6
          replace p' := p'.below b6
          have hP6 := hP5.below b6
          have H0 := rleafBytes_any (w := w6) k0 r0 p'
          rw [← HN.out] at H0
          have H := hid H0
          clear H0
          clear hP5 b6 B5
          go_wp2_with fail
          refine H.out.mono ?_
          rintro e w7 ⟨Az, cz, rfl, rz, b7⟩
          rw [← hL.out] at rz ⊢
          have B7 := below_then B6 b7
          have H := hid (bytes_any (hP6.bsa.below b7) rz.bsa)
          clear hP6 b7 B6
          go_wp2_with fail
          refine H.out.mono ?_
          rintro e w8 ⟨rfl, b8⟩
          go_wp2
          go_ret
          exact ⟨rfl, below_then B7 b8⟩
end Go.Proofs.YthnkndeljlphjaaDoor
