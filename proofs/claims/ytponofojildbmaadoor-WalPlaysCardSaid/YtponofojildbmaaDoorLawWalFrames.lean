/- WalFrames, WalScans: a frame, and any bytes behind it; any bytes: which frames they begin with. -/
import Derived.Test.YtponofojildbmaaDoorWalF
set_option linter.unusedVariables false
set_option linter.unusedSimpArgs false
namespace Go.Proofs.YtponofojildbmaaDoor
open Go.RowKit PrintLast

theorem scan_few (L : List UInt8) : (scanB L).1.length ≤ L.length := by
  obtain ⟨g1, _, g3, _⟩ := scanB_le _ L rfl
  have : (scanB L).1.length ≤ (allB (scanB L).1).length := by
    generalize (scanB L).1 = l
    induction l with
    | nil => simp
    | cons x l ih =>
      have e : allB (x :: l) = frameB x ++ allB l := by simp [allB]
      rw [e, List.length_append, frameB_length, List.length_cons]
      omega
  omega

set_option maxRecDepth 100000 in
set_option maxHeartbeats 6400000 in
theorem frames_walk {w : World} (hT : Table w) {A B : Option Addr} {c d : Nat} {p q : List UInt8} (hp : BSA w A c p) (hq : BSA w B d q) :
    Calls Tryd.prog 3 #[.slice A p.length c, .slice B q.length d] w fun e w' => e = .returned (.bool true) ∧ Below w.heap.size w w' := by
  by_cases h0 : 200 < p.length
  · have t0 : decide ((200 : Int) < (p.length : Int)) = true := by simp; omega
    have H := hid (both_any hT)
    go_enter Tryd.func3, Tryd.ntmps3
    go_wp2_with fail
    refine H.out.mono ?_
    rintro e w1 ⟨rfl, b1⟩
    have H := hid (both_any (hT.below b1))
    go_wp2_with fail
    refine H.out.mono ?_
    rintro e w2 ⟨rfl, b2⟩
    go_wp2
    go_ret
    exact ⟨rfl, below_then b1 b2⟩
  · by_cases h1 : 60 < q.length
    · have t0 : decide ((200 : Int) < (p.length : Int)) = false := by simp; omega
      have t1 : decide ((60 : Int) < (q.length : Int)) = true := by simp; omega
      have H := hid (both_any hT)
      go_enter Tryd.func3, Tryd.ntmps3
      go_wp2_with fail
      refine H.out.mono ?_
      rintro e w1 ⟨rfl, b1⟩
      have H := hid (both_any (hT.below b1))
      go_wp2_with fail
      refine H.out.mono ?_
      rintro e w2 ⟨rfl, b2⟩
      go_wp2
      go_ret
      exact ⟨rfl, below_then b1 b2⟩
    · have t0 : decide ((200 : Int) < (p.length : Int)) = false := by simp; omega
      have t1 : decide ((60 : Int) < (q.length : Int)) = false := by simp; omega
      obtain ⟨F, hF⟩ : ∃ F, Hid (F = frameB p) := ⟨_, hid rfl⟩
      obtain ⟨L, hL⟩ : ∃ L, Hid (L = F ++ q) := ⟨_, hid rfl⟩
      have lF : Hid (F.length = 8 + p.length) := hid (by rw [hF.out, frameB_length])
      have lL : Hid (L.length = 8 + p.length + q.length) := hid (by rw [hL.out, List.length_append, lF.out])
      have hlb : L.length ≤ 1000 := by rw [lL.out]; omega
      have SC : Hid ((scanB L).1 = p :: (scanB q).1) := hid (by
        have e : L = allB [p] ++ q := by rw [hL.out, hF.out]; simp [allB]
        rw [e, scan_frames _ _ (by intro x hx; simp at hx; subst hx; omega)]
        rfl)
      have e1 : decide (F = F) = true := by simp
      have e2 : decide (p = p) = true := by simp
      have HT := hid hT
      have H := hid (both_any hT)
      clear hT
      go_enter Tryd.func3, Tryd.ntmps3
      go_wp2_with fail
      refine H.out.mono ?_
      rintro e w1 ⟨rfl, B1⟩
      replace hp := hp.below B1
      replace hq := hq.below B1
      have H := hid (frame_any (HT.out.below B1) hp (by omega))
      go_wp2_with fail
      refine H.out.mono ?_
      rintro e w2 ⟨A2, c2, rfl, r2, b2⟩
      rw [← hF.out] at r2 ⊢
      have B2 := below_then B1 b2
      replace hp := hp.below b2
      replace hq := hq.below b2
      have H := hid (join_gave rfl rfl hL.out.symm r2.bsa hq (by omega))
      clear B1 b2
      go_wp2_with fail
      refine H.out.mono ?_
      rintro e w3 ⟨A3, c3, rfl, r3, b3⟩
      have B3 := below_then B2 b3
      replace hp := hp.below b3
      replace hq := hq.below b3
      replace r2 := r2.below b3
      have H := hid (scan_gave (HT.out.below B3) rfl r3 (by omega))
      clear B2 b3
      go_wp2_with fail
      refine H.out.mono ?_
      rintro e w4 ⟨R, cR, ps, rfl, lp, hps, b4⟩
      have B4 := below_then B3 b4
      replace hp := hp.below b4
      replace hq := hq.below b4
      replace r2 := r2.below b4
      have H := hid (join_gave rfl rfl hL.out.symm r2.bsa hq (by omega))
      have hps' := hid hps
      obtain ⟨N, hN⟩ : ∃ N, Hid (N = (scanB L).2) := ⟨_, hid rfl⟩
      rw [← hN.out]
      clear B3 b4 r3 hps
      go_wp2_with fail
      refine H.out.mono ?_
      rintro e w5 ⟨A5, c5, rfl, r5, b5⟩
      have B5 := below_then B4 b5
      replace hp := hp.below b5
      replace r2 := r2.below b5
      replace lp := lp.below b5
      have H := hid (rscan_gave rfl r5 (by omega))
      clear B4 b5
      go_wp2_with fail
      refine H.out.mono ?_
      rintro e w6 ⟨S, cS, qs, rfl, lq, hqs, b6⟩
      have B6 := below_then B5 b6
      replace hp := hp.below b6
      replace r2 := r2.below b6
      replace lp := lp.below b6
      have hqs' := hid hqs
      rw [← hN.out]
      have H := hid (rframe_any hp (by omega))
      clear B5 b6 r5 hqs hq
      go_wp2_with fail
      refine H.out.mono ?_
      rintro e w7 ⟨A7, c7, rfl, r7, b7⟩
      rw [← hF.out] at r7 ⊢
      have B7 := below_then B6 b7
      replace hp := hp.below b7
      replace r2 := r2.below b7
      replace lp := lp.below b7
      replace lq := lq.below b7
      have H := hid (bytes_any r2.bsa r7.bsa)
      clear B6 b7
      go_wp2_with fail
      refine H.out.mono ?_
      rintro e w8 ⟨rfl, b8⟩
      have B8 := below_then B7 b8
      replace hp := hp.below b8
      replace lp := lp.below b8
      replace lq := lq.below b8
      have hl1 : Hid (ps.length = (scanB L).1.length) := hid (by rw [← hps'.out]; simp)
      have hl2 : Hid (qs.length = (scanB L).1.length) := hid (by rw [← hqs'.out]; simp)
      have hle : (scanB L).1.length ≤ 1000 := by have := scan_few L; omega
      have SM := same_any (c := cR) (d := cS) lp.parts lq.parts (by rw [hl1.out]; omega) (by rw [hl2.out]; omega)
      have et : decide (texts ps = texts qs) = true := by
        rw [decide_eq_true_iff]
        show ps.map (·.2.2) = qs.map (·.2.2)
        rw [hps'.out, hqs'.out]
      rw [et] at SM
      have H := hid SM
      clear B7 b8 r2 r7 SM et hle
      go_wp2_with fail
      refine H.out.mono ?_
      rintro e w9 ⟨rfl, b9⟩
      have B9 := below_then B8 b9
      replace hp := hp.below b9
      replace lp := lp.below b9
      have hps2 : ps.map (·.2.2) = p :: (scanB q).1 := by rw [hps'.out, SC.out]
      obtain ⟨x, pt, rfl⟩ : ∃ x pt, ps = x :: pt := by
        cases ps with
        | nil => cases hps2
        | cons x pt => exact ⟨x, pt, rfl⟩
      obtain ⟨⟨Ax, cx, x⟩, rfl⟩ : ∃ z, x = z := ⟨_, rfl⟩
      obtain ⟨g, rfl⟩ := lp.place (by simp)
      have hx : x = p := by
        have := congrArg (fun l => l.head?) hps2
        simpa using this
      subst hx
      have k0 := lp.parts.2 _ rfl 0 (by simp)
      rw [add_plain] at k0
      have c0 : w9.cell? ⟨g, 0, none⟩ = some (.slice Ax x.length cx) := k0.1
      have hx0 : BSA w9 Ax cx x := k0.2
      have tp : decide ((0 : Int) < ((((Ax, cx, x) : Part) :: pt).length : Int)) = true := by simp
      have hcap := lp.cap.1
      have hcap2 : pt.length + 1 ≤ cR := hcap
      have tp1 : (0 : Int) < (pt.length : Int) + 1 := by omega
      have H := hid (bytes_any hx0 hp)
      clear hps2 lp k0 hx0 B8 b9 lq hcap hps' hl1
      go_wp2_with fail
      refine H.out.mono ?_
      rintro e w10 ⟨rfl, b10⟩
      go_wp2
      go_ret
      exact ⟨rfl, below_then B9 b10⟩
end Go.Proofs.YtponofojildbmaaDoor
