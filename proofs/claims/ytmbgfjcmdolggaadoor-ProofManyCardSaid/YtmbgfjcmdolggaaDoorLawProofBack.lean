/- ProofBack: a proof is read as it was written. -/
import Derived.Test.YtmbgfjcmdolggaaDoorRawB
set_option linter.unusedVariables false
set_option linter.unusedSimpArgs false
namespace Go.Proofs.YtmbgfjcmdolggaaDoor
open Go.RowKit PrintLast

theorem res_enc {p : Prf} (h : Fits p) : resB (encB p) = (0, p) := by unfold resB; rw [decB_enc p h]
theorem enc_length {p : Prf} (h : Fits p) : 3 ≤ (encB p).length ∧ (encB p).length ≤ 100000 := by
  obtain ⟨h1, h2, h3, h4, h5, h6, h7⟩ := h
  unfold encB endS
  simp only [List.length_append, numBytes_length, sidesS_length _ h1, List.length_cons]
  have e1 : (if p.kind = 2 then textS p.key.data.toList else []).length ≤ 4002 := by
    split
    · rw [textS_length]; have : p.key.data.toList.length = p.key.size := by simp
      omega
    · simp
  have e2 : (if p.kind = 1 ∨ p.kind = 2 then textS p.row else []).length ≤ 4002 := by
    split
    · rw [textS_length]; omega
    · simp
  omega

set_option maxRecDepth 100000 in
set_option maxHeartbeats 12800000 in
theorem back_walk {w : World} (hT : Table w) {A B : Option Addr} {c d : Nat} {ps : List Part} {kd : UInt8} {key : ByteArray} {row : List UInt8} (hr : RawAt w A c ps key B d row) :
    Calls Tryd.prog 3 #[.agg #[.slice A ps.length c, .int .u8 (kd.toNat : Int), .string key, .slice B row.length d]] w fun e w' => e = .returned (.bool true) ∧ Below w.heap.size w w' := by
  obtain ⟨n, hn⟩ : ∃ n, n = ps.length := ⟨_, rfl⟩
  obtain ⟨m, hm⟩ : ∃ m, m = row.length := ⟨_, rfl⟩
  rw [← hn, ← hm]
  have HN := hid (And.intro hn.symm hm.symm)
  have al := below_alloc (Below.refl _ w) (.cells #[.slice A n c, .int .u8 (kd.toNat : Int), .string key, .slice B m d] 25)
  have gb := hid (heap_alloc_new w (.cells #[.slice A n c, .int .u8 (kd.toNat : Int), .string key, .slice B m d] 25))
  have TT := hid (hT.below al)
  have RR := hid (hr.below al)
  have BB := hid al
  obtain ⟨S, hS⟩ : ∃ S, S = w.heap.size := ⟨_, rfl⟩
  have HS := hid hS
  rw [← hS] at gb
  clear hn hm al hT hr hS
  go_enter Tryd.func3, Tryd.ntmps3
  go_upto_region 1 with fail
  rw [← HS.out]
  generalize w.alloc (.cells #[.slice A n c, .int .u8 (kd.toNat : Int), .string key, .slice B m d] 25) = w0 at *
  have HC1 := hid (bare_any TT.out)
  go_wp2_with fail
  refine HC1.out.mono ?_
  rintro e w1 ⟨rfl, b1⟩
  clear HC1
  replace gb := hid (below_heap b1 gb.out)
  replace TT := hid (TT.out.below b1)
  replace RR := hid (RR.out.below b1)
  replace BB := hid (below_then BB.out b1)
  clear b1
  obtain ⟨v0, v1, v2, v3, -, -, -, -⟩ := four gb.out
  have HC2 := hid (few_any (kd := kd) HN.out.1 HN.out.2 RR.out)
  go_wp2_with fail
  refine HC2.out.mono ?_
  rintro e w2 ⟨rfl, b2⟩
  clear HC2 v0 v1 v2 v3
  replace gb := hid (below_heap b2 gb.out)
  replace TT := hid (TT.out.below b2)
  replace RR := hid (RR.out.below b2)
  replace BB := hid (below_then BB.out b2)
  clear b2
  by_cases hf : FewB ps key row
  · have hd : decide (FewB ps key row) = true := by simp [hf]
    rw [hd]
    have HF := hid hf
    have FP := hid (ofP_fits (kd := kd) hf)
    clear hd hf
    obtain ⟨v0, v1, v2, v3, -, -, -, -⟩ := four gb.out
    have HC3 := hid (of_any (kd := kd) HN.out.1 HN.out.2 RR.out HF.out)
    go_wp2_with fail
    refine HC3.out.mono ?_
    rintro e w3 ⟨R, c3, B3, m3, d3, rfl, p3, b3⟩
    clear HC3 v0 v1 v2 v3
    replace gb := hid (below_heap b3 gb.out)
    replace TT := hid (TT.out.below b3)
    replace RR := hid (RR.out.below b3)
    replace BB := hid (below_then BB.out b3)
    clear gb RR
    have PP := hid p3
    clear p3 b3
    obtain ⟨P, hP⟩ : ∃ P, P = ofP ps kd key row := ⟨_, rfl⟩
    rw [← hP] at PP FP ⊢
    clear hP
    obtain ⟨S1, hS1⟩ : ∃ S, S = w3.heap.size := ⟨_, rfl⟩
    have g1 := hid (heap_alloc_new w3 (.cells #[.slice R n c3, .int .u8 (P.kind.toNat : Int), .string P.key, .slice B3 m3 d3] 30))
    have al := below_alloc (Below.refl _ w3) (.cells #[.slice R n c3, .int .u8 (P.kind.toNat : Int), .string P.key, .slice B3 m3 d3] 30)
    rw [← hS1] at g1
    have HS1 := hid hS1
    clear hS1
    replace TT := hid (TT.out.below al)
    replace PP := hid (PP.out.below al)
    replace BB := hid (below_then BB.out al)
    clear al
    go_upto_region 4 with fail
    rw [← HS1.out]
    generalize w3.alloc (.cells #[.slice R n c3, .int .u8 (P.kind.toNat : Int), .string P.key, .slice B3 m3 d3] 30) = w4 at *
    clear HS1
    obtain ⟨v0, v1, v2, v3, -, -, -, -⟩ := four g1.out
    have HC4 := hid (enc_any (c := c3) PP.out.1 PP.out.2.1 PP.out.2.2.2.1 PP.out.2.2.2.2 (fits_holds FP.out))
    go_wp2_with fail
    refine HC4.out.mono ?_
    rintro e w5 ⟨A5, c5, rfl, r5, b5⟩
    clear HC4 v0 v1 v2 v3
    replace TT := hid (TT.out.below b5)
    replace PP := hid (PP.out.below b5)
    replace g1 := hid (below_heap b5 g1.out)
    replace BB := hid (below_then BB.out b5)
    obtain ⟨N, hN⟩ : ∃ N, N = (encB P).length := ⟨_, rfl⟩
    have hN2 : N ≤ 100000 := by rw [hN]; exact (enc_length FP.out).2
    rw [← hN]
    have HQ := hid hN
    have QQ := hid r5
    clear hN r5 b5
    have HC5 := hid (dec_any HQ.out.symm QQ.out.bsa (by omega))
    go_wp2_with fail
    refine HC5.out.mono ?_
    rintro e w6 ⟨A6, c6, B6, d6, rfl, t6, r6, b6⟩
    clear HC5
    replace TT := hid (TT.out.below b6)
    replace PP := hid (PP.out.below b6)
    replace g1 := hid (below_heap b6 g1.out)
    replace QQ := hid (QQ.out.below b6)
    replace BB := hid (below_then BB.out b6)
    rw [res_enc FP.out] at t6 r6 ⊢
    unfold prfV
    rw [show ((0 : Nat), P).2.side.length = n from PP.out.1, show ((0 : Nat), P).2.row.length = m3 from PP.out.2.1]
    have XX : Hid (PrfAt w6 A6 n c6 B6 m3 d6 P) := hid ⟨PP.out.1, PP.out.2.1, PP.out.2.2.1, t6.at_, r6.bsa⟩
    clear t6 r6 b6
    obtain ⟨S2, hS2⟩ : ∃ S, S = w6.heap.size := ⟨_, rfl⟩
    have g2 := hid (heap_alloc_new w6 (.cells #[.slice A6 n c6, .int .u8 (P.kind.toNat : Int), .string P.key, .slice B6 m3 d6] 30))
    have al := below_alloc (Below.refl _ w6) (.cells #[.slice A6 n c6, .int .u8 (P.kind.toNat : Int), .string P.key, .slice B6 m3 d6] 30)
    rw [← hS2] at g2
    have HS2 := hid hS2
    clear hS2
    replace TT := hid (TT.out.below al)
    replace PP := hid (PP.out.below al)
    replace g1 := hid (below_heap al g1.out)
    replace QQ := hid (QQ.out.below al)
    replace XX := hid (XX.out.below al)
    replace BB := hid (below_then BB.out al)
    clear al
    go_upto_region 6 with fail
    rw [← HS2.out]
    show Code.wp _ _ _ _ (w6.alloc (.cells #[.slice A6 n c6, .int .u8 (P.kind.toNat : Int), .string P.key, .slice B6 m3 d6] 30))
    generalize w6.alloc (.cells #[.slice A6 n c6, .int .u8 (P.kind.toNat : Int), .string P.key, .slice B6 m3 d6] 30) = w7 at *
    clear HS2
    have HC6 := hid (rdec_any HQ.out.symm QQ.out.bsa (by omega))
    go_wp2_with fail
    refine HC6.out.mono ?_
    rintro e w8 ⟨A8, c8, B8, d8, rfl, t8, r8, b8⟩
    clear HC6
    replace TT := hid (TT.out.below b8)
    replace PP := hid (PP.out.below b8)
    replace g1 := hid (below_heap b8 g1.out)
    replace QQ := hid (QQ.out.below b8)
    replace XX := hid (XX.out.below b8)
    replace g2 := hid (below_heap b8 g2.out)
    replace BB := hid (below_then BB.out b8)
    rw [res_enc FP.out] at t8 r8 ⊢
    unfold prfV
    rw [show ((0 : Nat), P).2.side.length = n from PP.out.1, show ((0 : Nat), P).2.row.length = m3 from PP.out.2.1]
    have YY : Hid (PrfAt w8 A8 n c8 B8 m3 d8 P) := hid ⟨PP.out.1, PP.out.2.1, PP.out.2.2.1, t8.at_, r8.bsa⟩
    clear t8 r8 b8
    obtain ⟨S3, hS3⟩ : ∃ S, S = w8.heap.size := ⟨_, rfl⟩
    have g3 := hid (heap_alloc_new w8 (.cells #[.slice A8 n c8, .int .u8 (P.kind.toNat : Int), .string P.key, .slice B8 m3 d8] 36))
    have al := below_alloc (Below.refl _ w8) (.cells #[.slice A8 n c8, .int .u8 (P.kind.toNat : Int), .string P.key, .slice B8 m3 d8] 36)
    rw [← hS3] at g3
    have HS3 := hid hS3
    clear hS3
    replace TT := hid (TT.out.below al)
    replace PP := hid (PP.out.below al)
    replace g1 := hid (below_heap al g1.out)
    replace QQ := hid (QQ.out.below al)
    replace XX := hid (XX.out.below al)
    replace g2 := hid (below_heap al g2.out)
    replace YY := hid (YY.out.below al)
    replace BB := hid (below_then BB.out al)
    clear al
    go_upto_region 7 with fail
    rw [← HS3.out]
    show Code.wp _ _ _ _ (w8.alloc (.cells #[.slice A8 n c8, .int .u8 (P.kind.toNat : Int), .string P.key, .slice B8 m3 d8] 36))
    generalize w8.alloc (.cells #[.slice A8 n c8, .int .u8 (P.kind.toNat : Int), .string P.key, .slice B8 m3 d8] 36) = w9 at *
    clear HS3
    obtain ⟨p0, p1, p2, p3, -, -, -, -⟩ := four g1.out
    obtain ⟨x0, x1, x2, x3, -, -, -, -⟩ := four g2.out
    have S0 := psame_any XX.out PP.out
    rw [sameB_self] at S0
    have HS9 := hid S0
    clear S0
    go_wp2_with fail
    refine HS9.out.mono ?_
    rintro e w10 ⟨rfl, b10⟩
    clear HS9 p0 p1 p2 p3 x0 x1 x2 x3
    replace TT := hid (TT.out.below b10)
    replace PP := hid (PP.out.below b10)
    replace g1 := hid (below_heap b10 g1.out)
    replace QQ := hid (QQ.out.below b10)
    replace XX := hid (XX.out.below b10)
    replace g2 := hid (below_heap b10 g2.out)
    replace YY := hid (YY.out.below b10)
    replace g3 := hid (below_heap b10 g3.out)
    replace BB := hid (below_then BB.out b10)
    clear b10
    obtain ⟨x0, x1, x2, x3, -, -, -, -⟩ := four g2.out
    obtain ⟨y0, y1, y2, y3, -, -, -, -⟩ := four g3.out
    have S0 := like_any XX.out YY.out
    rw [sameB_self] at S0
    have HS9 := hid S0
    clear S0
    go_wp2_with fail
    refine HS9.out.mono ?_
    rintro e w11 ⟨rfl, b11⟩
    clear HS9 x0 x1 x2 x3 y0 y1 y2 y3
    replace TT := hid (TT.out.below b11)
    replace PP := hid (PP.out.below b11)
    replace g1 := hid (below_heap b11 g1.out)
    replace QQ := hid (QQ.out.below b11)
    replace XX := hid (XX.out.below b11)
    replace g2 := hid (below_heap b11 g2.out)
    replace YY := hid (YY.out.below b11)
    replace g3 := hid (below_heap b11 g3.out)
    replace BB := hid (below_then BB.out b11)
    clear b11
    obtain ⟨y0, y1, y2, y3, -, -, -, -⟩ := four g3.out
    have HC7 := hid (renc_any (c := c8) YY.out.1 YY.out.2.1 YY.out.2.2.2.1 YY.out.2.2.2.2 (fits_holds FP.out))
    go_wp2_with fail
    refine HC7.out.mono ?_
    rintro e w12 ⟨A12, c12, rfl, r12, b12⟩
    clear HC7 y0 y1 y2 y3
    replace TT := hid (TT.out.below b12)
    replace PP := hid (PP.out.below b12)
    replace g1 := hid (below_heap b12 g1.out)
    replace QQ := hid (QQ.out.below b12)
    replace XX := hid (XX.out.below b12)
    replace g2 := hid (below_heap b12 g2.out)
    replace YY := hid (YY.out.below b12)
    replace g3 := hid (below_heap b12 g3.out)
    replace BB := hid (below_then BB.out b12)
    rw [← HQ.out]
    have B0 := bytes_n HQ.out.symm HQ.out.symm QQ.out.bsa r12.bsa
    rw [show decide (encB P = encB P) = true by simp] at B0
    have HB0 := hid B0
    clear B0 r12 b12
    go_wp2_with fail
    refine HB0.out.mono ?_
    rintro e w13 ⟨rfl, b13⟩
    replace TT := hid (TT.out.below b13)
    replace PP := hid (PP.out.below b13)
    replace g1 := hid (below_heap b13 g1.out)
    replace QQ := hid (QQ.out.below b13)
    replace XX := hid (XX.out.below b13)
    replace g2 := hid (below_heap b13 g2.out)
    replace YY := hid (YY.out.below b13)
    replace g3 := hid (below_heap b13 g3.out)
    replace BB := hid (below_then BB.out b13)
    clear b13 HB0
    go_wp2
    go_ret
    exact ⟨rfl, BB.out⟩
  · have hd : decide (FewB ps key row) = false := by simp [hf]
    rw [hd]
    clear hd hf
    have HC8 := hid (bare_any TT.out)
    go_wp2_with fail
    refine HC8.out.mono ?_
    rintro e w3 ⟨rfl, b3⟩
    clear HC8
    replace BB := hid (below_then BB.out b3)
    go_wp2
    go_ret
    exact ⟨rfl, BB.out⟩
end Go.Proofs.YtmbgfjcmdolggaaDoor
