/- VerifyShows: what is built is accepted, and no other answer with the same bytes. -/
import Derived.Test.YtcfjciencggflaaDoorV6
set_option linter.unusedVariables false
set_option linter.unusedSimpArgs false
namespace Go.Proofs.YtcfjciencggflaaDoor
open Go.RowKit PrintLast

set_option maxRecDepth 100000 in
set_option maxHeartbeats 12800000 in
theorem shows_walk {w : World} (hT : Table w) {A C E : Option Addr} {cap c e : Nat} {l : List PAct} {u' : Int} {seed other : List UInt8} (h0 : l.length ≤ cap ∧ cap ≤ maxLen ∧ PActsAt w A l) (hu : (Lit.int .u8 u').wf = true) (hs : BSA w C c seed) (ho : BSA w E e other) :
    Calls Tryd.prog 6 #[.slice A l.length cap, .int .u8 u', .slice C seed.length c, .slice E other.length e] w fun e w' => e = .returned (.bool true) ∧ Below w.heap.size w w' := by
  obtain ⟨u, rfl⟩ : ∃ b8 : UInt8, u' = (b8.toNat : Int) := ⟨UInt8.ofNat u'.toNat, (u8_of_int hu).symm⟩
  obtain ⟨n, hn⟩ : ∃ n, n = l.length := ⟨_, rfl⟩
  obtain ⟨r, hr⟩ : ∃ r, r = seed.length := ⟨_, rfl⟩
  obtain ⟨q, hq⟩ : ∃ q, q = other.length := ⟨_, rfl⟩
  rw [← hn] at h0 ⊢
  rw [← hr, ← hq]
  have r9 : r ≤ 9223372036854775807 := by rw [hr]; exact hs.le
  have q9 : q ≤ 9223372036854775807 := by rw [hq]; exact ho.le
  have HN := hid hn.symm
  have HC := hid (And.intro h0.1 h0.2.1)
  have AA := hid h0.2.2
  have SL := hid hr.symm
  have SB := hid hs
  have OL := hid hq.symm
  have OB := hid ho
  have TT := hid hT
  have BB := hid (Below.refl w.heap.size w)
  clear hn hr hq hT h0 hu hs ho
  by_cases hsm : SmallL l
  · have hd : decide (SmallL l) = true := by simp [hsm]
    have SM := hid hsm
    have HD := hid hd
    clear hsm hd
    by_cases hg : 20 < r ∨ 20 < q
    · obtain ⟨b1, b2, e1, e2, hb⟩ : ∃ b1 b2 : Bool, decide ((20 : Int) < (r : Int)) = b1 ∧ decide ((20 : Int) < (q : Int)) = b2 ∧ (b1 || b2) = true := ⟨_, _, rfl, rfl, by
        simp only [Bool.or_eq_true, decide_eq_true_eq]
        omega⟩
      clear hg
      go_enter Tryd.func6, Tryd.ntmps6
      cases b1 <;> cases b2 <;> first
        | exact absurd hb (by decide)
        | (clear hb
           have HC1 := hid (vlink_any TT.out)
           go_wp2_with fail
           refine HC1.out.mono ?_
           rintro e w1 ⟨rfl, b1⟩
           clear HC1
           replace TT := hid (TT.out.below b1)
           replace AA := hid (AA.out.below b1)
           replace SB := hid (SB.out.below b1)
           replace OB := hid (OB.out.below b1)
           replace BB := hid (below_then BB.out b1)
           clear b1
           have S0 := small_any HN.out AA.out HC.out.1 HC.out.2
           rw [HD.out] at S0
           have S1 := hid S0
           clear S0
           go_wp2_with fail
           refine S1.out.mono ?_
           rintro e w2 ⟨rfl, rfl⟩
           clear S1
           have HC2 := hid (vlink_any TT.out)
           go_wp2_with fail
           refine HC2.out.mono ?_
           rintro e w3 ⟨rfl, b3⟩
           clear HC2
           replace TT := hid (TT.out.below b3)
           replace AA := hid (AA.out.below b3)
           replace SB := hid (SB.out.below b3)
           replace OB := hid (OB.out.below b3)
           replace BB := hid (below_then BB.out b3)
           clear b3
           go_wp2
           go_ret
           exact ⟨rfl, BB.out⟩
          )
    · have t1 : decide ((20 : Int) < (r : Int)) = false := by simp; omega
      have t2 : decide ((20 : Int) < (q : Int)) = false := by simp; omega
      have R20 : r ≤ 20 := by omega
      clear hg
      go_enter Tryd.func6, Tryd.ntmps6
      have HC1 := hid (vlink_any TT.out)
      go_wp2_with fail
      refine HC1.out.mono ?_
      rintro e w1 ⟨rfl, b1⟩
      clear HC1
      replace TT := hid (TT.out.below b1)
      replace AA := hid (AA.out.below b1)
      replace SB := hid (SB.out.below b1)
      replace OB := hid (OB.out.below b1)
      replace BB := hid (below_then BB.out b1)
      clear b1
      have S0 := small_any HN.out AA.out HC.out.1 HC.out.2
      rw [HD.out] at S0
      have S1 := hid S0
      clear S0
      go_wp2_with fail
      refine S1.out.mono ?_
      rintro e w2 ⟨rfl, rfl⟩
      clear S1
      obtain ⟨kb, hkb⟩ : ∃ kb : UInt8, kb = u % 26 := ⟨_, rfl⟩
      have e1 : (u.toNat : Int) % 26 = (kb.toNat : Int) := by rw [hkb, UInt8.toNat_mod]; rfl
      have cv := key_conv w1 kb
      have al := below_alloc (Below.refl _ w1) (.cells #[.int .u8 107, .int .u8 (kb.toNat : Int)] 5)
      clear hkb
      replace TT := hid (TT.out.below al)
      replace AA := hid (AA.out.below al)
      replace SB := hid (SB.out.below al)
      replace OB := hid (OB.out.below al)
      replace BB := hid (below_then BB.out al)
      clear al
      go_upto_region 4 with fail
      generalize w1.alloc (.cells #[.int .u8 107, .int .u8 (kb.toNat : Int)] 5) = w4 at *
      clear cv e1
      obtain ⟨k1, hk1⟩ : ∃ k1, k1 = key2 kb := ⟨_, rfl⟩
      have KBk1 := hid (show k1.size ≤ 60000 by rw [hk1, key2_size]; omega)
      rw [← hk1]
      clear hk1
      have HC2 := hid (shown_any (key := k1) TT.out HN.out AA.out HC.out.1 SM.out KBk1.out SL.out SB.out (by omega))
      go_wp2_with fail
      refine HC2.out.mono ?_
      rintro e w5 ⟨d, RA, rm, rc, PA, n0, pk, ok, ll, row, rfl, hS, b5⟩
      clear HC2
      replace TT := hid (TT.out.below b5)
      replace AA := hid (AA.out.below b5)
      replace SB := hid (SB.out.below b5)
      replace OB := hid (OB.out.below b5)
      replace BB := hid (below_then BB.out b5)
      have SH := hS
      clear hS b5
      clear AA SB
      obtain ⟨P, hP⟩ : ∃ P, P = layB (dig seed) (dig (seed ++ [1])) (buildT (treeF 256 ll) k1) := ⟨_, rfl⟩
      have NB := hid (show n0 ≤ 1000000 by rw [← SH.out.2.2.2.2.2.1]; have := (lay_length (dig_size seed) (dig_size (seed ++ [1])) (built_fits SH.out.1 k1)).1; omega)
      have ACC := hid (SH.out.acc)
      have PL := hid SH.out.2.2.2.2.2.1
      have PB := hid SH.out.2.2.2.2.2.2.1
      rw [← hP] at ACC PL PB
      have RL := hid SH.out.2.1
      have RB := hid SH.out.2.2.1
      have HP := hid hP
      clear hP
      have dsz : d.size ≤ 1000000 := by rw [SH.out.2.2.2.2.2.2.2, dig_size]; decide
      clear SH
      have S0 := check_acc (digest := d) (key := k1) (row := row) (there := ok) TT.out PL.out PB.out NB.out KBk1.out RL.out RB.out
      rw [show acceptB d k1 row ok P = true by rw [ACC.out]; simp] at S0
      have S1 := hid S0
      clear S0
      go_wp2_with fail
      refine S1.out.mono ?_
      rintro e w6 ⟨rfl, b6⟩
      clear S1
      replace TT := hid (TT.out.below b6)
      replace OB := hid (OB.out.below b6)
      replace PB := hid (PB.out.below b6)
      replace RB := hid (RB.out.below b6)
      replace BB := hid (below_then BB.out b6)
      clear b6
      have S0 := check_acc (digest := d) (key := k1) (row := row) (there := !ok) TT.out PL.out PB.out NB.out KBk1.out RL.out RB.out
      rw [show acceptB d k1 row (!ok) P = false by rw [ACC.out]; cases ok <;> simp] at S0
      have S1 := hid S0
      clear S0
      go_wp2_with fail
      refine S1.out.mono ?_
      rintro e w7 ⟨rfl, b7⟩
      clear S1
      replace TT := hid (TT.out.below b7)
      replace OB := hid (OB.out.below b7)
      replace PB := hid (PB.out.below b7)
      replace RB := hid (RB.out.below b7)
      replace BB := hid (below_then BB.out b7)
      clear b7
      have DX : Hid (d ≠ d ++ ⟨#[120]⟩) := hid (fun h => by have h1 := congrArg ByteArray.size h; have h2 : (d ++ (⟨#[120]⟩ : ByteArray)).size = d.size + (⟨#[120]⟩ : ByteArray).size := ByteArray.size_append; have h3 : (⟨#[120]⟩ : ByteArray).size = 1 := rfl; omega)
      have S0 := check_acc (digest := (d ++ ⟨#[120]⟩)) (key := k1) (row := row) (there := ok) TT.out PL.out PB.out NB.out KBk1.out RL.out RB.out
      rw [show acceptB (d ++ ⟨#[120]⟩) k1 row ok P = false by rw [ACC.out, decide_eq_false DX.out, Bool.and_false]] at S0
      have S1 := hid S0
      clear S0
      go_wp2_with fail
      refine S1.out.mono ?_
      rintro e w8 ⟨rfl, b8⟩
      clear S1
      replace TT := hid (TT.out.below b8)
      replace OB := hid (OB.out.below b8)
      replace PB := hid (PB.out.below b8)
      replace RB := hid (RB.out.below b8)
      replace BB := hid (below_then BB.out b8)
      clear b8
      have HC3 := hid (vsteps_any (key := k1) TT.out PL.out PB.out NB.out KBk1.out)
      go_wp2_with fail
      refine HC3.out.mono ?_
      rintro e w9 ⟨rfl, b9⟩
      clear HC3
      replace TT := hid (TT.out.below b9)
      replace OB := hid (OB.out.below b9)
      replace PB := hid (PB.out.below b9)
      replace RB := hid (RB.out.below b9)
      replace BB := hid (below_then BB.out b9)
      clear b9
      have HC4 := hid (bytes_n OL.out RL.out OB.out RB.out)
      go_wp2_with fail
      refine HC4.out.mono ?_
      rintro e w10 ⟨rfl, b10⟩
      clear HC4
      replace TT := hid (TT.out.below b10)
      replace OB := hid (OB.out.below b10)
      replace PB := hid (PB.out.below b10)
      replace RB := hid (RB.out.below b10)
      replace BB := hid (below_then BB.out b10)
      clear b10
      by_cases hor : other = row
      · have hd2 : decide (other = row) = true := decide_eq_true hor
        rw [hd2]
        clear hd2 hor
        go_wp2
        go_ret
        exact ⟨rfl, BB.out⟩
      · have hd2 : decide (other = row) = false := decide_eq_false hor
        rw [hd2]
        have HOR := hid hor
        clear hd2 hor
        have S0 := check_acc (digest := d) (key := k1) (row := other) (there := ok) TT.out PL.out PB.out NB.out KBk1.out OL.out OB.out
        rw [show acceptB d k1 other ok P = false by rw [ACC.out, decide_eq_false (show ¬ row = other from fun e => HOR.out e.symm)]; simp] at S0
        have S1 := hid S0
        clear S0
        go_wp2_with fail
        refine S1.out.mono ?_
        rintro e w11 ⟨rfl, b11⟩
        clear S1
        replace TT := hid (TT.out.below b11)
        replace OB := hid (OB.out.below b11)
        replace PB := hid (PB.out.below b11)
        replace RB := hid (RB.out.below b11)
        replace BB := hid (below_then BB.out b11)
        clear b11
        go_wp2
        go_ret
        exact ⟨rfl, BB.out⟩
  · have hd : decide (SmallL l) = false := by simp [hsm]
    have HD := hid hd
    clear hsm hd
    go_enter Tryd.func6, Tryd.ntmps6
    have HC1 := hid (vlink_any TT.out)
    go_wp2_with fail
    refine HC1.out.mono ?_
    rintro e w1 ⟨rfl, b1⟩
    clear HC1
    replace TT := hid (TT.out.below b1)
    replace AA := hid (AA.out.below b1)
    replace SB := hid (SB.out.below b1)
    replace OB := hid (OB.out.below b1)
    replace BB := hid (below_then BB.out b1)
    clear b1
    have S0 := small_any HN.out AA.out HC.out.1 HC.out.2
    rw [HD.out] at S0
    have S1 := hid S0
    clear S0
    go_wp2_with fail
    refine S1.out.mono ?_
    rintro e w2 ⟨rfl, rfl⟩
    clear S1
    have HC2 := hid (vlink_any TT.out)
    go_wp2_with fail
    refine HC2.out.mono ?_
    rintro e w3 ⟨rfl, b3⟩
    clear HC2
    replace TT := hid (TT.out.below b3)
    replace AA := hid (AA.out.below b3)
    replace SB := hid (SB.out.below b3)
    replace OB := hid (OB.out.below b3)
    replace BB := hid (below_then BB.out b3)
    clear b3
    go_wp2
    go_ret
    exact ⟨rfl, BB.out⟩
end Go.Proofs.YtcfjciencggflaaDoor
