/- WalScans: any bytes: which frames they begin with. -/
import Derived.Test.YtponofojildbmaaDoorLawWalFrames
set_option linter.unusedVariables false
set_option linter.unusedSimpArgs false
namespace Go.Proofs.YtponofojildbmaaDoor
open Go.RowKit PrintLast

theorem all_bound (ls : List (List UInt8)) (h : smallB ls) : (allB ls).length ≤ 1360 := by
  have key : ∀ l : List (List UInt8), (∀ x ∈ l, x.length ≤ 60) → (allB l).length ≤ 68 * l.length := by
    intro l
    induction l with
    | nil => intro _; simp [allB]
    | cons x l ih =>
      intro hx
      have e : allB (x :: l) = frameB x ++ allB l := by simp [allB]
      have h1 := hx x (by simp)
      have h2 := ih (fun y hy => hx y (by simp [hy]))
      rw [e, List.length_append, frameB_length, List.length_cons]
      omega
  have := key ls h.1
  have := h.2
  omega

set_option maxRecDepth 100000 in
set_option maxHeartbeats 6400000 in
theorem scans_walk {w : World} (hT : Table w) {A B : Option Addr} {c d : Nat} {p : List UInt8} {zs : List Part} (hp : BSA w A c p) (hz : zs.length ≤ d ∧ d ≤ maxLen ∧ PartsAt w B zs) :
    Calls Tryd.prog 4 #[.slice A p.length c, .slice B zs.length d] w fun e w' => e = .returned (.bool true) ∧ Below w.heap.size w w' := by
  obtain ⟨z1, z2, hZ⟩ := hz
  by_cases h0 : 100 < p.length
  · have t0 : decide ((100 : Int) < (p.length : Int)) = true := by simp; omega
    have H := hid (both_any hT)
    go_enter Tryd.func4, Tryd.ntmps4
    go_wp2_with fail
    refine H.out.mono ?_
    rintro e w1 ⟨rfl, b1⟩
    have H := hid (both_any (hT.below b1))
    go_wp2_with fail
    refine H.out.mono ?_
    rintro e w2 ⟨rfl, b2⟩
    go_wp2
    go_ret
    exact ⟨rfl, below_then b1 b2⟩
  · have t0 : decide ((100 : Int) < (p.length : Int)) = false := by simp; omega
    by_cases h1 : smallB (texts zs)
    · have hab := all_bound _ h1
      have h20 : zs.length ≤ 20 := by have := h1.2; rwa [texts_length] at this
      have ht : decide (smallB (texts zs)) = true := by simp [h1]
      obtain ⟨F, hF⟩ : ∃ F, Hid (F = allB (texts zs)) := ⟨_, hid rfl⟩
      obtain ⟨L, hL⟩ : ∃ L, Hid (L = F ++ p) := ⟨_, hid rfl⟩
      have hlb : L.length ≤ 2000 := by rw [hL.out, List.length_append, hF.out]; omega
      have SC : Hid ((scanB L).1 = texts zs ++ (scanB p).1) := hid (by
        rw [hL.out, hF.out, scan_frames _ _ (fun x hx => by have := h1.1 x hx; omega)])
      have hT' := hid hT
      have h60 : ∀ x ∈ texts zs, x.length ≤ 1000000 := fun x hx => by have := h1.1 x hx; omega
      have H60 := hid h60
      have H := hid (both_any hT)
      clear hT h1 h60
      go_enter Tryd.func4, Tryd.ntmps4
      go_wp2_with fail
      refine H.out.mono ?_
      rintro e w1 ⟨rfl, B1⟩
      replace hp := hp.below B1
      replace hZ := hZ.below B1
      have H0 := small_any hZ ⟨z1, z2⟩
      rw [ht] at H0
      have H := hid H0
      clear H0 ht
      go_wp2_with fail
      refine H.out.mono ?_
      rintro e w2 ⟨rfl, rfl⟩
      have H := hid (all_any (c := d) hZ H60.out (by omega) (by omega))
      go_wp2_with fail
      refine H.out.mono ?_
      rintro e w2 ⟨A2, c2, rfl, r2, b2⟩
      rw [← hF.out] at r2 ⊢
      have B2 := below_then B1 b2
      replace hp := hp.below b2
      have H := hid (join_gave rfl rfl hL.out.symm r2.bsa hp (by omega))
      clear B1 b2 hZ
      go_wp2_with fail
      refine H.out.mono ?_
      rintro e w3 ⟨A3, c3, rfl, r3, b3⟩
      have B3 := below_then B2 b3
      have H := hid (scan_gave (hT'.out.below B3) rfl r3 (by omega))
      clear B2 b3 r2 hp
      go_wp2_with fail
      refine H.out.mono ?_
      rintro e w4 ⟨R, cR, ps, rfl, lp, hps, b4⟩
      have B4 := below_then B3 b4
      replace r3 := r3.below b4
      have H := hid (rscan_gave rfl r3 (by omega))
      have hps' := hid hps
      obtain ⟨N, hN⟩ : ∃ N, Hid (N = (scanB L).2) := ⟨_, hid rfl⟩
      rw [← hN.out]
      clear B3 b4 hps
      go_wp2_with fail
      refine H.out.mono ?_
      rintro e w5 ⟨S, cS, qs, rfl, lq, hqs, b5⟩
      have B5 := below_then B4 b5
      replace lp := lp.below b5
      have hqs' := hid hqs
      rw [← hN.out]
      have hl1 : Hid (ps.length = (scanB L).1.length) := hid (by rw [← hps'.out]; simp)
      have hl2 : Hid (qs.length = (scanB L).1.length) := hid (by rw [← hqs'.out]; simp)
      have hle : (scanB L).1.length ≤ 2000 := by have := scan_few L; omega
      have SM := same_any (c := cR) (d := cS) lp.parts lq.parts (by rw [hl1.out]; omega) (by rw [hl2.out]; omega)
      have et : decide (texts ps = texts qs) = true := by
        rw [decide_eq_true_iff]
        show ps.map (·.2.2) = qs.map (·.2.2)
        rw [hps'.out, hqs'.out]
      rw [et] at SM
      have H := hid SM
      have hNL : N ≤ L.length := by rw [hN.out]; exact (scanB_le _ L rfl).1
      have hge : zs.length ≤ ps.length := by rw [hl1.out, SC.out, List.length_append, texts_length]; omega
      have t8 : decide ((zs.length : Int) ≤ (ps.length : Int)) = true := by simp; omega
      have t9 : decide ((N : Int) ≤ (L.length : Int)) = true := by simp; omega
      clear B4 b5 SM et hle hqs lp lq r3
      go_wp2_with fail
      refine H.out.mono ?_
      rintro e w6 ⟨rfl, b6⟩
      go_wp2
      go_ret
      exact ⟨rfl, below_then B5 b6⟩
    · have ht : decide (smallB (texts zs)) = false := by simp [h1]
      have H := hid (both_any hT)
      go_enter Tryd.func4, Tryd.ntmps4
      go_wp2_with fail
      refine H.out.mono ?_
      rintro e w1 ⟨rfl, B1⟩
      have H0 := small_any (hZ.below B1) ⟨z1, z2⟩
      rw [ht] at H0
      have H := hid H0
      clear H0 ht
      go_wp2_with fail
      refine H.out.mono ?_
      rintro e w2 ⟨rfl, rfl⟩
      have H := hid (both_any (hT.below B1))
      go_wp2_with fail
      refine H.out.mono ?_
      rintro e w2 ⟨rfl, b2⟩
      go_wp2
      go_ret
      exact ⟨rfl, below_then B1 b2⟩
end Go.Proofs.YtponofojildbmaaDoor
