/- VerifyClash: what is accepted for one digest and one key, and tells unlike answers, shows two unlike texts of one sum. -/
import Derived.Test.YtcfjciencggflaaDoorV6
import Derived.Test.YtcfjciencggflaaDoorV7
set_option linter.unusedVariables false
set_option linter.unusedSimpArgs false
namespace Go.Proofs.YtcfjciencggflaaDoor
open Go.RowKit PrintLast

/-- Unlike answers for one digest clash. -/
theorem clash_told {w w2 : World} {seed : List UInt8} {key d d2 : ByteArray} {A B A2 B2 : Option Addr} {m c n k m2 c2 n2 k2 : Nat} {ok ok2 : Bool} {ll ll2 : List Itm} {row row2 : List UInt8} (h : ShownAt w seed key d A m c B n k ok ll row) (h2 : ShownAt w2 seed key d2 A2 m2 c2 B2 n2 k2 ok2 ll2 row2)
    (hk : key.size = 2) (hd : d = d2) (hu : ok ≠ ok2 ∨ row ≠ row2) : (clashP key (layB (dig seed) (dig (seed ++ [1])) (buildT (treeF 256 ll) key)) (layB (dig seed) (dig (seed ++ [1])) (buildT (treeF 256 ll2) key))).isSome = true := by
  obtain ⟨t1, _, _, g1, r1, _, _, d1⟩ := h
  obtain ⟨t2, _, _, g2, r2, _, _, e2⟩ := h2
  have f1 := built_fits t1 key
  have f2 := built_fits t2 key
  unfold clashP
  rw [stepsP_lay (dig_size _) (dig_size _) f1, stepsP_lay (dig_size _) (dig_size _) f2]
  have hne : getI ll key ≠ getI ll2 key := by
    rw [g1, g2]
    cases ok <;> cases ok2
    · rcases hu with hu | hu
      · exact absurd rfl hu
      · exact absurd ((r1 rfl).trans (r2 rfl).symm) hu
    · simp
    · simp
    · rcases hu with hu | hu
      · exact absurd rfl hu
      · simpa using hu
  have := clash_built t1.1 t2.1 (key := key) (last := dig seed) (sum := dig (seed ++ [1])) (dig_size _) (dig_size _) (fun y hy => by rw [(t1.2 y hy).1, hk]) (fun y hy => by rw [(t2.2 y hy).1, hk]) f1.1 f2.1 (by rw [← d1, ← e2]; exact hd) hne
  exact Option.isSome_iff_ne_none.2 this

set_option maxRecDepth 100000 in
set_option maxHeartbeats 25600000 in
theorem clash_walk {w : World} (hT : Table w) {A A' C E G : Option Addr} {cap cap' c e g : Nat} {l mm : List PAct} {u' : Int} {seed p q : List UInt8} (h0 : l.length ≤ cap ∧ cap ≤ maxLen ∧ PActsAt w A l) (h1 : mm.length ≤ cap' ∧ cap' ≤ maxLen ∧ PActsAt w A' mm) (hu : (Lit.int .u8 u').wf = true) (hs : BSA w C c seed) (hp : BSA w E e p) (hq : BSA w G g q) :
    Calls Tryd.prog 5 #[.slice A l.length cap, .slice A' mm.length cap', .int .u8 u', .slice C seed.length c, .slice E p.length e, .slice G q.length g] w fun e w' => e = .returned (.bool true) ∧ Below w.heap.size w w' := by
  obtain ⟨u, rfl⟩ : ∃ b8 : UInt8, u' = (b8.toNat : Int) := ⟨UInt8.ofNat u'.toNat, (u8_of_int hu).symm⟩
  obtain ⟨n, hn⟩ : ∃ n, n = l.length := ⟨_, rfl⟩
  obtain ⟨nm, hnm⟩ : ∃ n, n = mm.length := ⟨_, rfl⟩
  obtain ⟨r, hr⟩ : ∃ r, r = seed.length := ⟨_, rfl⟩
  obtain ⟨np, hnp⟩ : ∃ r, r = p.length := ⟨_, rfl⟩
  obtain ⟨nq, hnq⟩ : ∃ r, r = q.length := ⟨_, rfl⟩
  rw [← hn] at h0 ⊢
  rw [← hnm] at h1 ⊢
  rw [← hr, ← hnp, ← hnq]
  have r9 : r ≤ 9223372036854775807 := by rw [hr]; exact hs.le
  have p9 : np ≤ 9223372036854775807 := by rw [hnp]; exact hp.le
  have q9 : nq ≤ 9223372036854775807 := by rw [hnq]; exact hq.le
  have HN := hid hn.symm
  have HN2 := hid hnm.symm
  have HC := hid (And.intro h0.1 h0.2.1)
  have HC2 := hid (And.intro h1.1 h1.2.1)
  have AA := hid h0.2.2
  have AA2 := hid h1.2.2
  have SL := hid hr.symm
  have SB := hid hs
  have XL := hid hnp.symm
  have XB := hid hp
  have YL := hid hnq.symm
  have YB := hid hq
  have TT := hid hT
  have BB := hid (Below.refl w.heap.size w)
  clear hn hnm hr hnp hnq hT h0 h1 hu hs hp hq
  by_cases hsm : SmallL l
  · have hd : decide (SmallL l) = true := by simp [hsm]
    have SM := hid hsm
    have HD := hid hd
    clear hsm hd
    by_cases hsm : SmallL mm
    · have hd : decide (SmallL mm) = true := by simp [hsm]
      have SM2 := hid hsm
      have HD2 := hid hd
      clear hsm hd
      by_cases hg : 20 < r ∨ 200 < np ∨ 200 < nq
      · obtain ⟨b1, b2, b3, e1, e2, e3, hb⟩ : ∃ b1 b2 b3 : Bool, decide ((20 : Int) < (r : Int)) = b1 ∧ decide ((200 : Int) < (np : Int)) = b2 ∧ decide ((200 : Int) < (nq : Int)) = b3 ∧ (b1 || b2 || b3) = true := ⟨_, _, _, rfl, rfl, rfl, by
          simp only [Bool.or_eq_true, decide_eq_true_eq]
          omega⟩
        clear hg
        go_enter Tryd.func5, Tryd.ntmps5
        cases b1 <;> cases b2 <;> cases b3 <;> first
          | exact absurd hb (by decide)
          | (clear hb
             have HC1 := hid (vlink_any TT.out)
             go_wp2_with fail
             refine HC1.out.mono ?_
             rintro e w1 ⟨rfl, b1⟩
             clear HC1
             replace TT := hid (TT.out.below b1)
             replace AA := hid (AA.out.below b1)
             replace AA2 := hid (AA2.out.below b1)
             replace SB := hid (SB.out.below b1)
             replace XB := hid (XB.out.below b1)
             replace YB := hid (YB.out.below b1)
             replace BB := hid (below_then BB.out b1)
             clear b1
             have S0 := small_any HN.out AA.out HC.out.1 HC.out.2
             rw [HD.out] at S0
             have S1 := hid S0
             clear S0
             go_wp2_with fail
             refine S1.out.mono ?_
             rintro e w2 ⟨rfl, rfl⟩
             clear S1
             have S0 := small_any HN2.out AA2.out HC2.out.1 HC2.out.2
             rw [HD2.out] at S0
             have S1 := hid S0
             clear S0
             go_wp2_with fail
             refine S1.out.mono ?_
             rintro e w2b ⟨rfl, rfl⟩
             clear S1
             have HC2 := hid (vlink_any TT.out)
             go_wp2_with fail
             refine HC2.out.mono ?_
             rintro e w3 ⟨rfl, b3⟩
             clear HC2
             replace TT := hid (TT.out.below b3)
             replace AA := hid (AA.out.below b3)
             replace AA2 := hid (AA2.out.below b3)
             replace SB := hid (SB.out.below b3)
             replace XB := hid (XB.out.below b3)
             replace YB := hid (YB.out.below b3)
             replace BB := hid (below_then BB.out b3)
             clear b3
             go_wp2
             go_ret
             exact ⟨rfl, BB.out⟩
            )
      · have t1 : decide ((20 : Int) < (r : Int)) = false := by simp; omega
        have t2 : decide ((200 : Int) < (np : Int)) = false := by simp; omega
        have t3 : decide ((200 : Int) < (nq : Int)) = false := by simp; omega
        have R20 : r ≤ 20 ∧ np ≤ 200 ∧ nq ≤ 200 := by omega
        have RR20 := hid R20
        clear hg R20
        go_enter Tryd.func5, Tryd.ntmps5
        have HC1 := hid (vlink_any TT.out)
        go_wp2_with fail
        refine HC1.out.mono ?_
        rintro e w1 ⟨rfl, b1⟩
        clear HC1
        replace TT := hid (TT.out.below b1)
        replace AA := hid (AA.out.below b1)
        replace AA2 := hid (AA2.out.below b1)
        replace SB := hid (SB.out.below b1)
        replace XB := hid (XB.out.below b1)
        replace YB := hid (YB.out.below b1)
        replace BB := hid (below_then BB.out b1)
        clear b1
        have S0 := small_any HN.out AA.out HC.out.1 HC.out.2
        rw [HD.out] at S0
        have S1 := hid S0
        clear S0
        go_wp2_with fail
        refine S1.out.mono ?_
        rintro e w2 ⟨rfl, rfl⟩
        clear S1
        have S0 := small_any HN2.out AA2.out HC2.out.1 HC2.out.2
        rw [HD2.out] at S0
        have S1 := hid S0
        clear S0
        go_wp2_with fail
        refine S1.out.mono ?_
        rintro e w2b ⟨rfl, rfl⟩
        clear S1
        obtain ⟨kb, hkb⟩ : ∃ kb : UInt8, kb = u % 26 := ⟨_, rfl⟩
        have e1 : (u.toNat : Int) % 26 = (kb.toNat : Int) := by rw [hkb, UInt8.toNat_mod]; rfl
        have cv := key_conv w1 kb
        have al := below_alloc (Below.refl _ w1) (.cells #[.int .u8 107, .int .u8 (kb.toNat : Int)] 5)
        clear hkb
        replace TT := hid (TT.out.below al)
        replace AA := hid (AA.out.below al)
        replace AA2 := hid (AA2.out.below al)
        replace SB := hid (SB.out.below al)
        replace XB := hid (XB.out.below al)
        replace YB := hid (YB.out.below al)
        replace BB := hid (below_then BB.out al)
        clear al
        go_upto_region 4 with fail
        generalize w1.alloc (.cells #[.int .u8 107, .int .u8 (kb.toNat : Int)] 5) = w4 at *
        clear cv e1
        obtain ⟨k1, hk1⟩ : ∃ k1, k1 = key2 kb := ⟨_, rfl⟩
        have KBk1 := hid (show k1.size ≤ 60000 by rw [hk1, key2_size]; omega)
        have KS := hid (show k1.size = 2 by rw [hk1, key2_size])
        rw [← hk1]
        clear hk1
        have HC2 := hid (shown_any (key := k1) TT.out HN.out AA.out HC.out.1 SM.out KBk1.out SL.out SB.out (by have := RR20.out; omega))
        go_wp2_with fail
        refine HC2.out.mono ?_
        rintro e w5 ⟨d, RA, rm, rc, PA, n0, pk, ok, ll, row, rfl, SH, b5⟩
        clear HC2
        replace TT := hid (TT.out.below b5)
        replace AA := hid (AA.out.below b5)
        replace AA2 := hid (AA2.out.below b5)
        replace SB := hid (SB.out.below b5)
        replace XB := hid (XB.out.below b5)
        replace YB := hid (YB.out.below b5)
        replace BB := hid (below_then BB.out b5)
        clear b5
        clear AA
        have HC3 := hid (shown_any (key := k1) TT.out HN2.out AA2.out HC2.out.1 SM2.out KBk1.out SL.out SB.out (by have := RR20.out; omega))
        go_wp2_with fail
        refine HC3.out.mono ?_
        rintro e w6 ⟨d2, RA2, rm2, rc2, PA2, n2, pk2, ok2, ll2, row2, rfl, SH2, b6⟩
        clear HC3
        replace TT := hid (TT.out.below b6)
        replace AA2 := hid (AA2.out.below b6)
        replace SB := hid (SB.out.below b6)
        replace XB := hid (XB.out.below b6)
        replace YB := hid (YB.out.below b6)
        replace SH := hid (SH.out.below b6)
        replace BB := hid (below_then BB.out b6)
        clear b6
        clear AA2 SB
        obtain ⟨P, hP⟩ : ∃ P, P = layB (dig seed) (dig (seed ++ [1])) (buildT (treeF 256 ll) k1) := ⟨_, rfl⟩
        have NB := hid (show n0 ≤ 1000000 by rw [← SH.out.2.2.2.2.2.1]; have := (lay_length (dig_size seed) (dig_size (seed ++ [1])) (built_fits SH.out.1 k1)).1; omega)
        have ACC := hid (SH.out.acc)
        have PL := hid SH.out.2.2.2.2.2.1
        have PB := hid SH.out.2.2.2.2.2.2.1
        rw [← hP] at ACC PL PB
        have RL := hid SH.out.2.1
        have RB := hid SH.out.2.2.1
        have HP := hid hP
        clear hP
        obtain ⟨P2, hP⟩ : ∃ P, P = layB (dig seed) (dig (seed ++ [1])) (buildT (treeF 256 ll2) k1) := ⟨_, rfl⟩
        have NB2 := hid (show n2 ≤ 1000000 by rw [← SH2.out.2.2.2.2.2.1]; have := (lay_length (dig_size seed) (dig_size (seed ++ [1])) (built_fits SH2.out.1 k1)).1; omega)
        have ACC2 := hid (SH2.out.acc)
        have PL2 := hid SH2.out.2.2.2.2.2.1
        have PB2 := hid SH2.out.2.2.2.2.2.2.1
        rw [← hP] at ACC2 PL2 PB2
        have RL2 := hid SH2.out.2.1
        have RB2 := hid SH2.out.2.2.1
        have HP2 := hid hP
        clear hP
        have CT := hid (clash_told SH.out SH2.out KS.out)
        rw [← HP.out, ← HP2.out] at CT
        clear SH SH2
        have XN := hid (show np ≤ 1000000 by have := RR20.out; omega)
        have YN := hid (show nq ≤ 1000000 by have := RR20.out; omega)
        have HC4 := hid (pclash_any (key := k1) TT.out PL.out PL2.out PB.out PB2.out NB.out NB2.out KBk1.out)
        go_wp2_with fail
        refine HC4.out.mono ?_
        rintro e w7 ⟨A7, m7, c7, D7, q7, g7, o7, u7, v7, rfl, CC7, b7⟩
        clear HC4
        replace TT := hid (TT.out.below b7)
        replace XB := hid (XB.out.below b7)
        replace YB := hid (YB.out.below b7)
        replace PB := hid (PB.out.below b7)
        replace RB := hid (RB.out.below b7)
        replace PB2 := hid (PB2.out.below b7)
        replace RB2 := hid (RB2.out.below b7)
        replace BB := hid (below_then BB.out b7)
        clear b7
        obtain ⟨ul, vl, ub, vb, oo, uv⟩ := CC7.out
        have UL7 := hid ul
        have VL7 := hid vl
        have UB7 := hid ub
        have VB7 := hid vb
        have OO7 := hid (And.intro oo uv)
        clear CC7 ul vl ub vb oo uv
        have HC5 := hid (rclash_any (key := k1) PL.out PL2.out PB.out PB2.out NB.out NB2.out KBk1.out)
        go_wp2_with fail
        refine HC5.out.mono ?_
        rintro e w7 ⟨A8, m8, c8, D8, q8, g8, o8, u8, v8, rfl, CC8, b7⟩
        clear HC5
        replace TT := hid (TT.out.below b7)
        replace XB := hid (XB.out.below b7)
        replace YB := hid (YB.out.below b7)
        replace PB := hid (PB.out.below b7)
        replace RB := hid (RB.out.below b7)
        replace PB2 := hid (PB2.out.below b7)
        replace RB2 := hid (RB2.out.below b7)
        replace UB7 := hid (UB7.out.below b7)
        replace VB7 := hid (VB7.out.below b7)
        replace BB := hid (below_then BB.out b7)
        clear b7
        obtain ⟨ul, vl, ub, vb, oo, uv⟩ := CC8.out
        have UL8 := hid ul
        have VL8 := hid vl
        have UB8 := hid ub
        have VB8 := hid vb
        have OO8 := hid (And.intro oo uv)
        clear CC8 ul vl ub vb oo uv
        have HC6 := hid (pclash_any (key := k1) TT.out XL.out YL.out XB.out YB.out XN.out YN.out KBk1.out)
        go_wp2_with fail
        refine HC6.out.mono ?_
        rintro e w7 ⟨A9, m9, c9, D9, q9, g9, o9, u9, v9, rfl, CC9, b7⟩
        clear HC6
        replace TT := hid (TT.out.below b7)
        replace XB := hid (XB.out.below b7)
        replace YB := hid (YB.out.below b7)
        replace PB := hid (PB.out.below b7)
        replace RB := hid (RB.out.below b7)
        replace PB2 := hid (PB2.out.below b7)
        replace RB2 := hid (RB2.out.below b7)
        replace UB7 := hid (UB7.out.below b7)
        replace VB7 := hid (VB7.out.below b7)
        replace UB8 := hid (UB8.out.below b7)
        replace VB8 := hid (VB8.out.below b7)
        replace BB := hid (below_then BB.out b7)
        clear b7
        obtain ⟨ul, vl, ub, vb, oo, uv⟩ := CC9.out
        have UL9 := hid ul
        have VL9 := hid vl
        have UB9 := hid ub
        have VB9 := hid vb
        have OO9 := hid (And.intro oo uv)
        clear CC9 ul vl ub vb oo uv
        have HC7 := hid (rclash_any (key := k1) XL.out YL.out XB.out YB.out XN.out YN.out KBk1.out)
        go_wp2_with fail
        refine HC7.out.mono ?_
        rintro e w7 ⟨A10, m10, c10, D10, q10, g10, o10, u10, v10, rfl, CC10, b7⟩
        clear HC7
        replace TT := hid (TT.out.below b7)
        replace XB := hid (XB.out.below b7)
        replace YB := hid (YB.out.below b7)
        replace PB := hid (PB.out.below b7)
        replace RB := hid (RB.out.below b7)
        replace PB2 := hid (PB2.out.below b7)
        replace RB2 := hid (RB2.out.below b7)
        replace UB7 := hid (UB7.out.below b7)
        replace VB7 := hid (VB7.out.below b7)
        replace UB8 := hid (UB8.out.below b7)
        replace VB8 := hid (VB8.out.below b7)
        replace UB9 := hid (UB9.out.below b7)
        replace VB9 := hid (VB9.out.below b7)
        replace BB := hid (below_then BB.out b7)
        clear b7
        obtain ⟨ul, vl, ub, vb, oo, uv⟩ := CC10.out
        have UL10 := hid ul
        have VL10 := hid vl
        have UB10 := hid ub
        have VB10 := hid vb
        have OO10 := hid (And.intro oo uv)
        clear CC10 ul vl ub vb oo uv
        obtain rfl : o8 = o7 := OO8.out.1.trans OO7.out.1.symm
        obtain rfl : o10 = o9 := OO10.out.1.trans OO9.out.1.symm
        have UV : u9 = u10 ∧ v9 = v10 := by have := OO9.out.2.trans OO10.out.2.symm; exact ⟨congrArg Prod.fst this, congrArg Prod.snd this⟩
        have HUV := hid UV
        clear UV
        have z1 : (o8 == o8) = true := beq_self_eq_true _
        have z2 : (o10 == o10) = true := beq_self_eq_true _
        clear PB PB2 XB YB UB7 VB7 UB8 VB8
        by_cases hok : ok = ok2
        · have hcs : (ok = true ∧ ok2 = true) ∨ (ok = false ∧ ok2 = false) := by cases ok <;> cases ok2 <;> simp at hok ⊢
          clear hok
          rcases hcs with ⟨rfl, rfl⟩ | ⟨rfl, rfl⟩
          · skip
            have S0 := bytes_n RL.out RL2.out RB.out RB2.out
            by_cases hrr : row = row2
            · rw [decide_eq_true hrr] at S0
              have S1 := hid S0
              clear S0 hrr
              go_wp2_with fail
              refine S1.out.mono ?_
              rintro e w19 ⟨rfl, b19⟩
              clear S1
              replace TT := hid (TT.out.below b19)
              replace RB := hid (RB.out.below b19)
              replace RB2 := hid (RB2.out.below b19)
              replace UB9 := hid (UB9.out.below b19)
              replace VB9 := hid (VB9.out.below b19)
              replace UB10 := hid (UB10.out.below b19)
              replace VB10 := hid (VB10.out.below b19)
              replace BB := hid (below_then BB.out b19)
              clear b19
              have S0 := bytes_n UL9.out UL10.out UB9.out UB10.out
              rw [decide_eq_true HUV.out.1] at S0
              have S1 := hid S0
              clear S0
              go_wp2_with fail
              refine S1.out.mono ?_
              rintro e w20 ⟨rfl, b20⟩
              clear S1
              replace TT := hid (TT.out.below b20)
              replace RB := hid (RB.out.below b20)
              replace RB2 := hid (RB2.out.below b20)
              replace UB9 := hid (UB9.out.below b20)
              replace VB9 := hid (VB9.out.below b20)
              replace UB10 := hid (UB10.out.below b20)
              replace VB10 := hid (VB10.out.below b20)
              replace BB := hid (below_then BB.out b20)
              clear b20
              have S0 := bytes_n VL9.out VL10.out VB9.out VB10.out
              rw [decide_eq_true HUV.out.2] at S0
              have S1 := hid S0
              clear S0
              go_wp2_with fail
              refine S1.out.mono ?_
              rintro e w21 ⟨rfl, b21⟩
              clear S1
              replace TT := hid (TT.out.below b21)
              replace RB := hid (RB.out.below b21)
              replace RB2 := hid (RB2.out.below b21)
              replace UB9 := hid (UB9.out.below b21)
              replace VB9 := hid (VB9.out.below b21)
              replace UB10 := hid (UB10.out.below b21)
              replace VB10 := hid (VB10.out.below b21)
              replace BB := hid (below_then BB.out b21)
              clear b21
              go_wp2
              go_ret
              exact ⟨rfl, BB.out⟩
            · rw [decide_eq_false hrr] at S0
              have UN : Hid (true ≠ true ∨ row ≠ row2) := hid (.inr hrr)
              have S1 := hid S0
              clear S0 hrr
              go_wp2_with fail
              refine S1.out.mono ?_
              rintro e w19 ⟨rfl, b19⟩
              clear S1
              replace TT := hid (TT.out.below b19)
              replace RB := hid (RB.out.below b19)
              replace RB2 := hid (RB2.out.below b19)
              replace UB9 := hid (UB9.out.below b19)
              replace VB9 := hid (VB9.out.below b19)
              replace UB10 := hid (UB10.out.below b19)
              replace VB10 := hid (VB10.out.below b19)
              replace BB := hid (below_then BB.out b19)
              clear b19
              have S0 := bytes_n UL9.out UL10.out UB9.out UB10.out
              rw [decide_eq_true HUV.out.1] at S0
              have S1 := hid S0
              clear S0
              go_wp2_with fail
              refine S1.out.mono ?_
              rintro e w20 ⟨rfl, b20⟩
              clear S1
              replace TT := hid (TT.out.below b20)
              replace RB := hid (RB.out.below b20)
              replace RB2 := hid (RB2.out.below b20)
              replace UB9 := hid (UB9.out.below b20)
              replace VB9 := hid (VB9.out.below b20)
              replace UB10 := hid (UB10.out.below b20)
              replace VB10 := hid (VB10.out.below b20)
              replace BB := hid (below_then BB.out b20)
              clear b20
              have S0 := bytes_n VL9.out VL10.out VB9.out VB10.out
              rw [decide_eq_true HUV.out.2] at S0
              have S1 := hid S0
              clear S0
              go_wp2_with fail
              refine S1.out.mono ?_
              rintro e w21 ⟨rfl, b21⟩
              clear S1
              replace TT := hid (TT.out.below b21)
              replace RB := hid (RB.out.below b21)
              replace RB2 := hid (RB2.out.below b21)
              replace UB9 := hid (UB9.out.below b21)
              replace VB9 := hid (VB9.out.below b21)
              replace UB10 := hid (UB10.out.below b21)
              replace VB10 := hid (VB10.out.below b21)
              replace BB := hid (below_then BB.out b21)
              clear b21
              by_cases hdd : d = d2
              · have td : (d.toList == d2.toList) = true := by rw [hdd]; exact beq_self_eq_true _
                obtain rfl : o8 = true := OO7.out.1.trans (CT.out hdd UN.out)
                clear hdd
                go_wp2
                go_ret
                exact ⟨rfl, BB.out⟩
              · have td : (d.toList == d2.toList) = false := by rw [str_beq]; exact decide_eq_false hdd
                clear hdd
                go_wp2
                go_ret
                exact ⟨rfl, BB.out⟩
          · skip
            have S0 := bytes_n RL.out RL2.out RB.out RB2.out
            by_cases hrr : row = row2
            · rw [decide_eq_true hrr] at S0
              have S1 := hid S0
              clear S0 hrr
              go_wp2_with fail
              refine S1.out.mono ?_
              rintro e w19 ⟨rfl, b19⟩
              clear S1
              replace TT := hid (TT.out.below b19)
              replace RB := hid (RB.out.below b19)
              replace RB2 := hid (RB2.out.below b19)
              replace UB9 := hid (UB9.out.below b19)
              replace VB9 := hid (VB9.out.below b19)
              replace UB10 := hid (UB10.out.below b19)
              replace VB10 := hid (VB10.out.below b19)
              replace BB := hid (below_then BB.out b19)
              clear b19
              have S0 := bytes_n UL9.out UL10.out UB9.out UB10.out
              rw [decide_eq_true HUV.out.1] at S0
              have S1 := hid S0
              clear S0
              go_wp2_with fail
              refine S1.out.mono ?_
              rintro e w20 ⟨rfl, b20⟩
              clear S1
              replace TT := hid (TT.out.below b20)
              replace RB := hid (RB.out.below b20)
              replace RB2 := hid (RB2.out.below b20)
              replace UB9 := hid (UB9.out.below b20)
              replace VB9 := hid (VB9.out.below b20)
              replace UB10 := hid (UB10.out.below b20)
              replace VB10 := hid (VB10.out.below b20)
              replace BB := hid (below_then BB.out b20)
              clear b20
              have S0 := bytes_n VL9.out VL10.out VB9.out VB10.out
              rw [decide_eq_true HUV.out.2] at S0
              have S1 := hid S0
              clear S0
              go_wp2_with fail
              refine S1.out.mono ?_
              rintro e w21 ⟨rfl, b21⟩
              clear S1
              replace TT := hid (TT.out.below b21)
              replace RB := hid (RB.out.below b21)
              replace RB2 := hid (RB2.out.below b21)
              replace UB9 := hid (UB9.out.below b21)
              replace VB9 := hid (VB9.out.below b21)
              replace UB10 := hid (UB10.out.below b21)
              replace VB10 := hid (VB10.out.below b21)
              replace BB := hid (below_then BB.out b21)
              clear b21
              go_wp2
              go_ret
              exact ⟨rfl, BB.out⟩
            · rw [decide_eq_false hrr] at S0
              have UN : Hid (false ≠ false ∨ row ≠ row2) := hid (.inr hrr)
              have S1 := hid S0
              clear S0 hrr
              go_wp2_with fail
              refine S1.out.mono ?_
              rintro e w19 ⟨rfl, b19⟩
              clear S1
              replace TT := hid (TT.out.below b19)
              replace RB := hid (RB.out.below b19)
              replace RB2 := hid (RB2.out.below b19)
              replace UB9 := hid (UB9.out.below b19)
              replace VB9 := hid (VB9.out.below b19)
              replace UB10 := hid (UB10.out.below b19)
              replace VB10 := hid (VB10.out.below b19)
              replace BB := hid (below_then BB.out b19)
              clear b19
              have S0 := bytes_n UL9.out UL10.out UB9.out UB10.out
              rw [decide_eq_true HUV.out.1] at S0
              have S1 := hid S0
              clear S0
              go_wp2_with fail
              refine S1.out.mono ?_
              rintro e w20 ⟨rfl, b20⟩
              clear S1
              replace TT := hid (TT.out.below b20)
              replace RB := hid (RB.out.below b20)
              replace RB2 := hid (RB2.out.below b20)
              replace UB9 := hid (UB9.out.below b20)
              replace VB9 := hid (VB9.out.below b20)
              replace UB10 := hid (UB10.out.below b20)
              replace VB10 := hid (VB10.out.below b20)
              replace BB := hid (below_then BB.out b20)
              clear b20
              have S0 := bytes_n VL9.out VL10.out VB9.out VB10.out
              rw [decide_eq_true HUV.out.2] at S0
              have S1 := hid S0
              clear S0
              go_wp2_with fail
              refine S1.out.mono ?_
              rintro e w21 ⟨rfl, b21⟩
              clear S1
              replace TT := hid (TT.out.below b21)
              replace RB := hid (RB.out.below b21)
              replace RB2 := hid (RB2.out.below b21)
              replace UB9 := hid (UB9.out.below b21)
              replace VB9 := hid (VB9.out.below b21)
              replace UB10 := hid (UB10.out.below b21)
              replace VB10 := hid (VB10.out.below b21)
              replace BB := hid (below_then BB.out b21)
              clear b21
              by_cases hdd : d = d2
              · have td : (d.toList == d2.toList) = true := by rw [hdd]; exact beq_self_eq_true _
                obtain rfl : o8 = true := OO7.out.1.trans (CT.out hdd UN.out)
                clear hdd
                go_wp2
                go_ret
                exact ⟨rfl, BB.out⟩
              · have td : (d.toList == d2.toList) = false := by rw [str_beq]; exact decide_eq_false hdd
                clear hdd
                go_wp2
                go_ret
                exact ⟨rfl, BB.out⟩
        · have hcs : (ok = true ∧ ok2 = false) ∨ (ok = false ∧ ok2 = true) := by cases ok <;> cases ok2 <;> simp at hok ⊢
          have UN : Hid (ok ≠ ok2 ∨ row ≠ row2) := hid (.inl hok)
          clear hok
          rcases hcs with ⟨rfl, rfl⟩ | ⟨rfl, rfl⟩
          · skip
            have S0 := bytes_n UL9.out UL10.out UB9.out UB10.out
            rw [decide_eq_true HUV.out.1] at S0
            have S1 := hid S0
            clear S0
            go_wp2_with fail
            refine S1.out.mono ?_
            rintro e w20 ⟨rfl, b20⟩
            clear S1
            replace TT := hid (TT.out.below b20)
            replace RB := hid (RB.out.below b20)
            replace RB2 := hid (RB2.out.below b20)
            replace UB9 := hid (UB9.out.below b20)
            replace VB9 := hid (VB9.out.below b20)
            replace UB10 := hid (UB10.out.below b20)
            replace VB10 := hid (VB10.out.below b20)
            replace BB := hid (below_then BB.out b20)
            clear b20
            have S0 := bytes_n VL9.out VL10.out VB9.out VB10.out
            rw [decide_eq_true HUV.out.2] at S0
            have S1 := hid S0
            clear S0
            go_wp2_with fail
            refine S1.out.mono ?_
            rintro e w21 ⟨rfl, b21⟩
            clear S1
            replace TT := hid (TT.out.below b21)
            replace RB := hid (RB.out.below b21)
            replace RB2 := hid (RB2.out.below b21)
            replace UB9 := hid (UB9.out.below b21)
            replace VB9 := hid (VB9.out.below b21)
            replace UB10 := hid (UB10.out.below b21)
            replace VB10 := hid (VB10.out.below b21)
            replace BB := hid (below_then BB.out b21)
            clear b21
            by_cases hdd : d = d2
            · have td : (d.toList == d2.toList) = true := by rw [hdd]; exact beq_self_eq_true _
              obtain rfl : o8 = true := OO7.out.1.trans (CT.out hdd UN.out)
              clear hdd
              go_wp2
              go_ret
              exact ⟨rfl, BB.out⟩
            · have td : (d.toList == d2.toList) = false := by rw [str_beq]; exact decide_eq_false hdd
              clear hdd
              go_wp2
              go_ret
              exact ⟨rfl, BB.out⟩
          · skip
            have S0 := bytes_n UL9.out UL10.out UB9.out UB10.out
            rw [decide_eq_true HUV.out.1] at S0
            have S1 := hid S0
            clear S0
            go_wp2_with fail
            refine S1.out.mono ?_
            rintro e w20 ⟨rfl, b20⟩
            clear S1
            replace TT := hid (TT.out.below b20)
            replace RB := hid (RB.out.below b20)
            replace RB2 := hid (RB2.out.below b20)
            replace UB9 := hid (UB9.out.below b20)
            replace VB9 := hid (VB9.out.below b20)
            replace UB10 := hid (UB10.out.below b20)
            replace VB10 := hid (VB10.out.below b20)
            replace BB := hid (below_then BB.out b20)
            clear b20
            have S0 := bytes_n VL9.out VL10.out VB9.out VB10.out
            rw [decide_eq_true HUV.out.2] at S0
            have S1 := hid S0
            clear S0
            go_wp2_with fail
            refine S1.out.mono ?_
            rintro e w21 ⟨rfl, b21⟩
            clear S1
            replace TT := hid (TT.out.below b21)
            replace RB := hid (RB.out.below b21)
            replace RB2 := hid (RB2.out.below b21)
            replace UB9 := hid (UB9.out.below b21)
            replace VB9 := hid (VB9.out.below b21)
            replace UB10 := hid (UB10.out.below b21)
            replace VB10 := hid (VB10.out.below b21)
            replace BB := hid (below_then BB.out b21)
            clear b21
            by_cases hdd : d = d2
            · have td : (d.toList == d2.toList) = true := by rw [hdd]; exact beq_self_eq_true _
              obtain rfl : o8 = true := OO7.out.1.trans (CT.out hdd UN.out)
              clear hdd
              go_wp2
              go_ret
              exact ⟨rfl, BB.out⟩
            · have td : (d.toList == d2.toList) = false := by rw [str_beq]; exact decide_eq_false hdd
              clear hdd
              go_wp2
              go_ret
              exact ⟨rfl, BB.out⟩
    · have hd : decide (SmallL mm) = false := by simp [hsm]
      have HD2 := hid hd
      clear hsm hd
      go_enter Tryd.func5, Tryd.ntmps5
      have HC1 := hid (vlink_any TT.out)
      go_wp2_with fail
      refine HC1.out.mono ?_
      rintro e w1 ⟨rfl, b1⟩
      clear HC1
      replace TT := hid (TT.out.below b1)
      replace AA := hid (AA.out.below b1)
      replace AA2 := hid (AA2.out.below b1)
      replace SB := hid (SB.out.below b1)
      replace XB := hid (XB.out.below b1)
      replace YB := hid (YB.out.below b1)
      replace BB := hid (below_then BB.out b1)
      clear b1
      have S0 := small_any HN.out AA.out HC.out.1 HC.out.2
      rw [HD.out] at S0
      have S1 := hid S0
      clear S0
      go_wp2_with fail
      refine S1.out.mono ?_
      rintro e w2 ⟨rfl, rfl⟩
      clear S1
      have S0 := small_any HN2.out AA2.out HC2.out.1 HC2.out.2
      rw [HD2.out] at S0
      have S1 := hid S0
      clear S0
      go_wp2_with fail
      refine S1.out.mono ?_
      rintro e w2b ⟨rfl, rfl⟩
      clear S1
      have HC2 := hid (vlink_any TT.out)
      go_wp2_with fail
      refine HC2.out.mono ?_
      rintro e w3 ⟨rfl, b3⟩
      clear HC2
      replace TT := hid (TT.out.below b3)
      replace AA := hid (AA.out.below b3)
      replace AA2 := hid (AA2.out.below b3)
      replace SB := hid (SB.out.below b3)
      replace XB := hid (XB.out.below b3)
      replace YB := hid (YB.out.below b3)
      replace BB := hid (below_then BB.out b3)
      clear b3
      go_wp2
      go_ret
      exact ⟨rfl, BB.out⟩
  · have hd : decide (SmallL l) = false := by simp [hsm]
    have HD := hid hd
    clear hsm hd
    go_enter Tryd.func5, Tryd.ntmps5
    have HC1 := hid (vlink_any TT.out)
    go_wp2_with fail
    refine HC1.out.mono ?_
    rintro e w1 ⟨rfl, b1⟩
    clear HC1
    replace TT := hid (TT.out.below b1)
    replace AA := hid (AA.out.below b1)
    replace AA2 := hid (AA2.out.below b1)
    replace SB := hid (SB.out.below b1)
    replace XB := hid (XB.out.below b1)
    replace YB := hid (YB.out.below b1)
    replace BB := hid (below_then BB.out b1)
    clear b1
    have S0 := small_any HN.out AA.out HC.out.1 HC.out.2
    rw [HD.out] at S0
    have S1 := hid S0
    clear S0
    go_wp2_with fail
    refine S1.out.mono ?_
    rintro e w2 ⟨rfl, rfl⟩
    clear S1
    have HC2 := hid (vlink_any TT.out)
    go_wp2_with fail
    refine HC2.out.mono ?_
    rintro e w3 ⟨rfl, b3⟩
    clear HC2
    replace TT := hid (TT.out.below b3)
    replace AA := hid (AA.out.below b3)
    replace AA2 := hid (AA2.out.below b3)
    replace SB := hid (SB.out.below b3)
    replace XB := hid (XB.out.below b3)
    replace YB := hid (YB.out.below b3)
    replace BB := hid (below_then BB.out b3)
    clear b3
    go_wp2
    go_ret
    exact ⟨rfl, BB.out⟩
end Go.Proofs.YtcfjciencggflaaDoor
