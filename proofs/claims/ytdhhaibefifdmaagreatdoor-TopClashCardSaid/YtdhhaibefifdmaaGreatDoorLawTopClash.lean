/- TopClash: unlike answers for one digest and one key, both accepted, whatever bytes show them, come with two unlike texts of one sum. -/
import Derived.Test.YtdhhaibefifdmaaGreatDoorTopW
import Derived.Test.YtdhhaibefifdmaaGreatDoorTopS
import Derived.Test.YtdhhaibefifdmaaGreatDoorVClash
import Derived.Test.YtdhhaibefifdmaaGreatDoorT3
set_option linter.unusedVariables false
set_option linter.unusedSimpArgs false
namespace Go.Proofs.YtdhhaibefifdmaaGreatDoor
open Go.RowKit PrintLast

set_option maxRecDepth 100000 in
set_option maxHeartbeats 12800000 in
theorem topclash_walk {w : World} (hT : Table w) {digest key : ByteArray} {A B C D : Option Addr} {ca cb cc cd : Nat} {ra rb p q : List UInt8} {th th2 : Bool} (hd : digest.size ≤ 140737488351232) (hk : key.size ≤ 140737488351232) (ha : BSA w A ca ra) (hb : BSA w B cb rb) (hp : BSA w C cc p) (hq : BSA w D cd q) :
    Calls Tryz.prog 3 #[.string digest, .string key, .slice A ra.length ca, .slice B rb.length cb, .bool th, .bool th2, .slice C p.length cc, .slice D q.length cd] w fun e w' => e = .returned (.bool true) ∧ Below w.heap.size w w' := by
  obtain ⟨na, hna⟩ : ∃ n, n = ra.length := ⟨_, rfl⟩
  obtain ⟨nb, hnb⟩ : ∃ n, n = rb.length := ⟨_, rfl⟩
  obtain ⟨np, hnp⟩ : ∃ n, n = p.length := ⟨_, rfl⟩
  obtain ⟨nq, hnq⟩ : ∃ n, n = q.length := ⟨_, rfl⟩
  rw [← hna, ← hnb, ← hnp, ← hnq]
  have na9 : na ≤ 9223372036854775807 := by rw [hna]; exact ha.le
  have nb9 : nb ≤ 9223372036854775807 := by rw [hnb]; exact hb.le
  have np9 : np ≤ 9223372036854775807 := by rw [hnp]; exact hp.le
  have nq9 : nq ≤ 9223372036854775807 := by rw [hnq]; exact hq.le
  have LA := hid hna.symm
  have LB := hid hnb.symm
  have LP := hid hnp.symm
  have LQ := hid hnq.symm
  have TT := hid hT
  have RA := hid ha
  have RB := hid hb
  have RP := hid hp
  have RQ := hid hq
  have BB := hid (Below.refl w.heap.size w)
  clear hT ha hb hp hq hna hnb hnp hnq
  by_cases g0 : 60 < digest.size
  · have e0 : decide (((digest.size : Nat) : Int) > 60) = true := by simp; omega
    clear g0
    go_enter Tryz.func3, Tryz.ntmps3
    have H1 := hid (awake_any TT.out)
    go_wp2_with fail
    refine H1.out.mono ?_
    rintro e w1 ⟨rfl, b1⟩
    clear H1
    replace TT := hid (TT.out.below b1)
    replace BB := hid (below_then BB.out b1)
    clear b1
    have H2 := hid (awake_any TT.out)
    go_wp2_with fail
    refine H2.out.mono ?_
    rintro e w2 ⟨rfl, b2⟩
    have BF := below_then BB.out b2
    go_wp2
    go_ret
    exact ⟨rfl, BF⟩
  have e0 : decide (((digest.size : Nat) : Int) > 60) = false := by simp; omega
  by_cases g1 : 60 < key.size
  · have e1 : decide (((key.size : Nat) : Int) > 60) = true := by simp; omega
    clear g0 g1
    go_enter Tryz.func3, Tryz.ntmps3
    have H1 := hid (awake_any TT.out)
    go_wp2_with fail
    refine H1.out.mono ?_
    rintro e w1 ⟨rfl, b1⟩
    clear H1
    replace TT := hid (TT.out.below b1)
    replace BB := hid (below_then BB.out b1)
    clear b1
    have H2 := hid (awake_any TT.out)
    go_wp2_with fail
    refine H2.out.mono ?_
    rintro e w2 ⟨rfl, b2⟩
    have BF := below_then BB.out b2
    go_wp2
    go_ret
    exact ⟨rfl, BF⟩
  have e1 : decide (((key.size : Nat) : Int) > 60) = false := by simp; omega
  by_cases g2 : 60 < na
  · have e2 : decide (((na : Nat) : Int) > 60) = true := by simp; omega
    clear g0 g1 g2
    go_enter Tryz.func3, Tryz.ntmps3
    have H1 := hid (awake_any TT.out)
    go_wp2_with fail
    refine H1.out.mono ?_
    rintro e w1 ⟨rfl, b1⟩
    clear H1
    replace TT := hid (TT.out.below b1)
    replace BB := hid (below_then BB.out b1)
    clear b1
    have H2 := hid (awake_any TT.out)
    go_wp2_with fail
    refine H2.out.mono ?_
    rintro e w2 ⟨rfl, b2⟩
    have BF := below_then BB.out b2
    go_wp2
    go_ret
    exact ⟨rfl, BF⟩
  have e2 : decide (((na : Nat) : Int) > 60) = false := by simp; omega
  by_cases g3 : 60 < nb
  · have e3 : decide (((nb : Nat) : Int) > 60) = true := by simp; omega
    clear g0 g1 g2 g3
    go_enter Tryz.func3, Tryz.ntmps3
    have H1 := hid (awake_any TT.out)
    go_wp2_with fail
    refine H1.out.mono ?_
    rintro e w1 ⟨rfl, b1⟩
    clear H1
    replace TT := hid (TT.out.below b1)
    replace BB := hid (below_then BB.out b1)
    clear b1
    have H2 := hid (awake_any TT.out)
    go_wp2_with fail
    refine H2.out.mono ?_
    rintro e w2 ⟨rfl, b2⟩
    have BF := below_then BB.out b2
    go_wp2
    go_ret
    exact ⟨rfl, BF⟩
  have e3 : decide (((nb : Nat) : Int) > 60) = false := by simp; omega
  by_cases g4 : 260 < np
  · have e4 : decide (((np : Nat) : Int) > 260) = true := by simp; omega
    clear g0 g1 g2 g3 g4
    go_enter Tryz.func3, Tryz.ntmps3
    have H1 := hid (awake_any TT.out)
    go_wp2_with fail
    refine H1.out.mono ?_
    rintro e w1 ⟨rfl, b1⟩
    clear H1
    replace TT := hid (TT.out.below b1)
    replace BB := hid (below_then BB.out b1)
    clear b1
    have H2 := hid (awake_any TT.out)
    go_wp2_with fail
    refine H2.out.mono ?_
    rintro e w2 ⟨rfl, b2⟩
    have BF := below_then BB.out b2
    go_wp2
    go_ret
    exact ⟨rfl, BF⟩
  have e4 : decide (((np : Nat) : Int) > 260) = false := by simp; omega
  by_cases g5 : 260 < nq
  · have e5 : decide (((nq : Nat) : Int) > 260) = true := by simp; omega
    clear g0 g1 g2 g3 g4 g5
    go_enter Tryz.func3, Tryz.ntmps3
    have H1 := hid (awake_any TT.out)
    go_wp2_with fail
    refine H1.out.mono ?_
    rintro e w1 ⟨rfl, b1⟩
    clear H1
    replace TT := hid (TT.out.below b1)
    replace BB := hid (below_then BB.out b1)
    clear b1
    have H2 := hid (awake_any TT.out)
    go_wp2_with fail
    refine H2.out.mono ?_
    rintro e w2 ⟨rfl, b2⟩
    have BF := below_then BB.out b2
    go_wp2
    go_ret
    exact ⟨rfl, BF⟩
  have e5 : decide (((nq : Nat) : Int) > 260) = false := by simp; omega
  have kb : key.size ≤ 60000 := by omega
  have pb : np ≤ 1000000 := by omega
  have qb : nq ≤ 1000000 := by omega
  clear g0 g1 g2 g3 g4 g5
  go_enter Tryz.func3, Tryz.ntmps3
  have H1 := hid (awake_any TT.out)
  go_wp2_with fail
  refine H1.out.mono ?_
  rintro e w1 ⟨rfl, b1⟩
  clear H1
  replace TT := hid (TT.out.below b1)
  replace RA := hid (RA.out.below b1)
  replace RB := hid (RB.out.below b1)
  replace RP := hid (RP.out.below b1)
  replace RQ := hid (RQ.out.below b1)
  replace BB := hid (below_then BB.out b1)
  clear b1
  have HS := hid (psteps_any (key := key) TT.out LP.out RP.out pb kb)
  go_wp2_with fail
  refine HS.out.mono ?_
  rintro e w2 ⟨R, N, c2, ok, ps, rfl, HV, L2, b2⟩
  clear HS L2
  replace TT := hid (TT.out.below b2)
  replace RA := hid (RA.out.below b2)
  replace RB := hid (RB.out.below b2)
  replace RP := hid (RP.out.below b2)
  replace RQ := hid (RQ.out.below b2)
  replace BB := hid (below_then BB.out b2)
  clear b2
  have OKN : Hid (ok = true → decide ((N : Int) ≥ 2) = true) := hid (by
    intro hok
    obtain ⟨h1, h2, h3⟩ := HV.out
    cases hs : stepsP key p with
    | none => rw [hs] at h2; rw [h2] at hok; cases hok
    | some L =>
      rw [hs] at h3
      have h4 : L.length = N := by rw [← h1, ← txs_length, h3]; rfl
      have h5 : 2 ≤ L.length := by
        unfold stepsP at hs
        cases hr : readV p with
        | none => rw [hr] at hs; cases hs
        | some x =>
          rw [hr] at hs
          have h6 : stepsB key x.2.1 x.2.2 x.1 = L := Option.some.inj hs
          rw [← h6, stepsB_length]
          omega
      simp
      omega)
  clear HV
  have HC := hid (pclash_any (key := key) TT.out LP.out LQ.out RP.out RQ.out pb qb kb)
  go_wp2_with fail
  refine HC.out.mono ?_
  rintro e w3 ⟨A1, m1, c1, A2, m2, c3, fo, u, v, rfl, HG, b3⟩
  clear HC
  replace HG := hid (show u.length = m1 ∧ v.length = m2 ∧ BSA w3 A1 c1 u ∧ BSA w3 A2 c3 v ∧ fo = (clashP key p q).isSome ∧ (u, v) = (clashP key p q).getD ([], []) from HG.out)
  replace TT := hid (TT.out.below b3)
  replace RA := hid (RA.out.below b3)
  replace RB := hid (RB.out.below b3)
  replace RP := hid (RP.out.below b3)
  replace RQ := hid (RQ.out.below b3)
  replace BB := hid (below_then BB.out b3)
  clear b3
  have UN : Hid (∀ x y : Bool, acceptB digest key ra th p = x → acceptB digest key rb th2 q = y → x = true → y = true → (th ≠ th2 ∨ ra ≠ rb) → fo = true) := hid (fun x y hx hy hx1 hy1 hu => by rw [HG.out.2.2.2.2.1]; exact accept_clash (by omega) (hx.trans hx1) (hy.trans hy1) hu)
  cases fo with
  | false => 
    cases th with
    | false => 
      cases th2 with
      | false => 
        obtain ⟨be, hbe⟩ : ∃ b, b = decide (ra = rb) := ⟨_, rfl⟩
        have K0 := bytes_n LA.out LB.out RA.out RB.out
        rw [← hbe] at K0
        have HB := hid K0
        have UE : Hid (be = false → ra ≠ rb) := hid (fun h e => by rw [hbe] at h; simp [e] at h)
        clear K0 hbe
        go_wp2_with fail
        refine HB.out.mono ?_
        rintro e w4 ⟨rfl, b4⟩
        clear HB
        replace TT := hid (TT.out.below b4)
        replace RA := hid (RA.out.below b4)
        replace RB := hid (RB.out.below b4)
        replace RP := hid (RP.out.below b4)
        replace RQ := hid (RQ.out.below b4)
        replace BB := hid (below_then BB.out b4)
        clear b4
        obtain ⟨x1, hx1⟩ : ∃ x, x = acceptB digest key ra false p := ⟨_, rfl⟩
        have X1 := hid hx1
        have K1 := check_acc (digest := digest) (key := key) (there := false) TT.out LP.out RP.out pb kb LA.out RA.out
        rw [← hx1] at K1
        have HK1 := hid K1
        clear hx1 K1
        go_wp2_with fail
        refine HK1.out.mono ?_
        rintro e w5 ⟨rfl, b5⟩
        clear HK1
        replace TT := hid (TT.out.below b5)
        replace RA := hid (RA.out.below b5)
        replace RB := hid (RB.out.below b5)
        replace RP := hid (RP.out.below b5)
        replace RQ := hid (RQ.out.below b5)
        replace BB := hid (below_then BB.out b5)
        clear b5
        cases x1 with
        | false => 
          cases ok with
          | false => 
            go_wp2
            go_ret
            exact ⟨rfl, BB.out⟩
          | true => 
            have tn := OKN.out rfl
            go_wp2
            go_ret
            exact ⟨rfl, BB.out⟩
        | true => 
          obtain ⟨x2, hx2⟩ : ∃ x, x = acceptB digest key rb false q := ⟨_, rfl⟩
          have X2 := hid hx2
          have K2 := check_acc (digest := digest) (key := key) (there := false) TT.out LQ.out RQ.out qb kb LB.out RB.out
          rw [← hx2] at K2
          have HK2 := hid K2
          clear hx2 K2
          go_wp2_with fail
          refine HK2.out.mono ?_
          rintro e w6 ⟨rfl, b6⟩
          clear HK2
          replace TT := hid (TT.out.below b6)
          replace RA := hid (RA.out.below b6)
          replace RB := hid (RB.out.below b6)
          replace RP := hid (RP.out.below b6)
          replace RQ := hid (RQ.out.below b6)
          replace BB := hid (below_then BB.out b6)
          clear b6
          cases x2 with
          | false => 
            cases ok with
            | false => 
              go_wp2
              go_ret
              exact ⟨rfl, BB.out⟩
            | true => 
              have tn := OKN.out rfl
              go_wp2
              go_ret
              exact ⟨rfl, BB.out⟩
          | true => 
            cases be with
            | true => 
              cases ok with
              | false => 
                go_wp2
                go_ret
                exact ⟨rfl, BB.out⟩
              | true => 
                have tn := OKN.out rfl
                go_wp2
                go_ret
                exact ⟨rfl, BB.out⟩
            | false => 
              exact absurd (UN.out _ _ X1.out.symm X2.out.symm rfl rfl (.inr (UE.out rfl))) (by decide)
      | true => 
        obtain ⟨x1, hx1⟩ : ∃ x, x = acceptB digest key ra false p := ⟨_, rfl⟩
        have X1 := hid hx1
        have K1 := check_acc (digest := digest) (key := key) (there := false) TT.out LP.out RP.out pb kb LA.out RA.out
        rw [← hx1] at K1
        have HK1 := hid K1
        clear hx1 K1
        go_wp2_with fail
        refine HK1.out.mono ?_
        rintro e w5 ⟨rfl, b5⟩
        clear HK1
        replace TT := hid (TT.out.below b5)
        replace RA := hid (RA.out.below b5)
        replace RB := hid (RB.out.below b5)
        replace RP := hid (RP.out.below b5)
        replace RQ := hid (RQ.out.below b5)
        replace BB := hid (below_then BB.out b5)
        clear b5
        cases x1 with
        | false => 
          cases ok with
          | false => 
            go_wp2
            go_ret
            exact ⟨rfl, BB.out⟩
          | true => 
            have tn := OKN.out rfl
            go_wp2
            go_ret
            exact ⟨rfl, BB.out⟩
        | true => 
          obtain ⟨x2, hx2⟩ : ∃ x, x = acceptB digest key rb true q := ⟨_, rfl⟩
          have X2 := hid hx2
          have K2 := check_acc (digest := digest) (key := key) (there := true) TT.out LQ.out RQ.out qb kb LB.out RB.out
          rw [← hx2] at K2
          have HK2 := hid K2
          clear hx2 K2
          go_wp2_with fail
          refine HK2.out.mono ?_
          rintro e w6 ⟨rfl, b6⟩
          clear HK2
          replace TT := hid (TT.out.below b6)
          replace RA := hid (RA.out.below b6)
          replace RB := hid (RB.out.below b6)
          replace RP := hid (RP.out.below b6)
          replace RQ := hid (RQ.out.below b6)
          replace BB := hid (below_then BB.out b6)
          clear b6
          cases x2 with
          | false => 
            cases ok with
            | false => 
              go_wp2
              go_ret
              exact ⟨rfl, BB.out⟩
            | true => 
              have tn := OKN.out rfl
              go_wp2
              go_ret
              exact ⟨rfl, BB.out⟩
          | true => 
            exact absurd (UN.out _ _ X1.out.symm X2.out.symm rfl rfl (.inl (by decide))) (by decide)
    | true => 
      cases th2 with
      | false => 
        obtain ⟨x1, hx1⟩ : ∃ x, x = acceptB digest key ra true p := ⟨_, rfl⟩
        have X1 := hid hx1
        have K1 := check_acc (digest := digest) (key := key) (there := true) TT.out LP.out RP.out pb kb LA.out RA.out
        rw [← hx1] at K1
        have HK1 := hid K1
        clear hx1 K1
        go_wp2_with fail
        refine HK1.out.mono ?_
        rintro e w5 ⟨rfl, b5⟩
        clear HK1
        replace TT := hid (TT.out.below b5)
        replace RA := hid (RA.out.below b5)
        replace RB := hid (RB.out.below b5)
        replace RP := hid (RP.out.below b5)
        replace RQ := hid (RQ.out.below b5)
        replace BB := hid (below_then BB.out b5)
        clear b5
        cases x1 with
        | false => 
          cases ok with
          | false => 
            go_wp2
            go_ret
            exact ⟨rfl, BB.out⟩
          | true => 
            have tn := OKN.out rfl
            go_wp2
            go_ret
            exact ⟨rfl, BB.out⟩
        | true => 
          obtain ⟨x2, hx2⟩ : ∃ x, x = acceptB digest key rb false q := ⟨_, rfl⟩
          have X2 := hid hx2
          have K2 := check_acc (digest := digest) (key := key) (there := false) TT.out LQ.out RQ.out qb kb LB.out RB.out
          rw [← hx2] at K2
          have HK2 := hid K2
          clear hx2 K2
          go_wp2_with fail
          refine HK2.out.mono ?_
          rintro e w6 ⟨rfl, b6⟩
          clear HK2
          replace TT := hid (TT.out.below b6)
          replace RA := hid (RA.out.below b6)
          replace RB := hid (RB.out.below b6)
          replace RP := hid (RP.out.below b6)
          replace RQ := hid (RQ.out.below b6)
          replace BB := hid (below_then BB.out b6)
          clear b6
          cases x2 with
          | false => 
            cases ok with
            | false => 
              go_wp2
              go_ret
              exact ⟨rfl, BB.out⟩
            | true => 
              have tn := OKN.out rfl
              go_wp2
              go_ret
              exact ⟨rfl, BB.out⟩
          | true => 
            exact absurd (UN.out _ _ X1.out.symm X2.out.symm rfl rfl (.inl (by decide))) (by decide)
      | true => 
        obtain ⟨be, hbe⟩ : ∃ b, b = decide (ra = rb) := ⟨_, rfl⟩
        have K0 := bytes_n LA.out LB.out RA.out RB.out
        rw [← hbe] at K0
        have HB := hid K0
        have UE : Hid (be = false → ra ≠ rb) := hid (fun h e => by rw [hbe] at h; simp [e] at h)
        clear K0 hbe
        go_wp2_with fail
        refine HB.out.mono ?_
        rintro e w4 ⟨rfl, b4⟩
        clear HB
        replace TT := hid (TT.out.below b4)
        replace RA := hid (RA.out.below b4)
        replace RB := hid (RB.out.below b4)
        replace RP := hid (RP.out.below b4)
        replace RQ := hid (RQ.out.below b4)
        replace BB := hid (below_then BB.out b4)
        clear b4
        obtain ⟨x1, hx1⟩ : ∃ x, x = acceptB digest key ra true p := ⟨_, rfl⟩
        have X1 := hid hx1
        have K1 := check_acc (digest := digest) (key := key) (there := true) TT.out LP.out RP.out pb kb LA.out RA.out
        rw [← hx1] at K1
        have HK1 := hid K1
        clear hx1 K1
        go_wp2_with fail
        refine HK1.out.mono ?_
        rintro e w5 ⟨rfl, b5⟩
        clear HK1
        replace TT := hid (TT.out.below b5)
        replace RA := hid (RA.out.below b5)
        replace RB := hid (RB.out.below b5)
        replace RP := hid (RP.out.below b5)
        replace RQ := hid (RQ.out.below b5)
        replace BB := hid (below_then BB.out b5)
        clear b5
        cases x1 with
        | false => 
          cases ok with
          | false => 
            go_wp2
            go_ret
            exact ⟨rfl, BB.out⟩
          | true => 
            have tn := OKN.out rfl
            go_wp2
            go_ret
            exact ⟨rfl, BB.out⟩
        | true => 
          obtain ⟨x2, hx2⟩ : ∃ x, x = acceptB digest key rb true q := ⟨_, rfl⟩
          have X2 := hid hx2
          have K2 := check_acc (digest := digest) (key := key) (there := true) TT.out LQ.out RQ.out qb kb LB.out RB.out
          rw [← hx2] at K2
          have HK2 := hid K2
          clear hx2 K2
          go_wp2_with fail
          refine HK2.out.mono ?_
          rintro e w6 ⟨rfl, b6⟩
          clear HK2
          replace TT := hid (TT.out.below b6)
          replace RA := hid (RA.out.below b6)
          replace RB := hid (RB.out.below b6)
          replace RP := hid (RP.out.below b6)
          replace RQ := hid (RQ.out.below b6)
          replace BB := hid (below_then BB.out b6)
          clear b6
          cases x2 with
          | false => 
            cases ok with
            | false => 
              go_wp2
              go_ret
              exact ⟨rfl, BB.out⟩
            | true => 
              have tn := OKN.out rfl
              go_wp2
              go_ret
              exact ⟨rfl, BB.out⟩
          | true => 
            cases be with
            | true => 
              cases ok with
              | false => 
                go_wp2
                go_ret
                exact ⟨rfl, BB.out⟩
              | true => 
                have tn := OKN.out rfl
                go_wp2
                go_ret
                exact ⟨rfl, BB.out⟩
            | false => 
              exact absurd (UN.out _ _ X1.out.symm X2.out.symm rfl rfl (.inr (UE.out rfl))) (by decide)
  | true => 
    have HNE : Hid (decide (u = v) = false) := hid (by
      obtain ⟨_, _, _, _, h5, h6⟩ := HG.out
      cases hc : clashP key p q with
      | none => rw [hc] at h5; cases h5
      | some z =>
        rw [hc] at h6
        have h7 := clashP_unlike hc
        rw [← (show (u, v) = z from h6)] at h7
        simpa using h7)
    have K9 := bytes_n HG.out.1 HG.out.2.1 HG.out.2.2.1 HG.out.2.2.2.1
    rw [HNE.out] at K9
    have HB9 := hid K9
    clear K9 HG HNE
    go_wp2_with fail
    refine HB9.out.mono ?_
    rintro e w9 ⟨rfl, b9⟩
    clear HB9
    replace TT := hid (TT.out.below b9)
    replace RA := hid (RA.out.below b9)
    replace RB := hid (RB.out.below b9)
    replace RP := hid (RP.out.below b9)
    replace RQ := hid (RQ.out.below b9)
    replace BB := hid (below_then BB.out b9)
    clear b9
    cases th with
    | false => 
      cases th2 with
      | false => 
        obtain ⟨be, hbe⟩ : ∃ b, b = decide (ra = rb) := ⟨_, rfl⟩
        have K0 := bytes_n LA.out LB.out RA.out RB.out
        rw [← hbe] at K0
        have HB := hid K0
        have UE : Hid (be = false → ra ≠ rb) := hid (fun h e => by rw [hbe] at h; simp [e] at h)
        clear K0 hbe
        go_wp2_with fail
        refine HB.out.mono ?_
        rintro e w4 ⟨rfl, b4⟩
        clear HB
        replace TT := hid (TT.out.below b4)
        replace RA := hid (RA.out.below b4)
        replace RB := hid (RB.out.below b4)
        replace RP := hid (RP.out.below b4)
        replace RQ := hid (RQ.out.below b4)
        replace BB := hid (below_then BB.out b4)
        clear b4
        obtain ⟨x1, hx1⟩ : ∃ x, x = acceptB digest key ra false p := ⟨_, rfl⟩
        have X1 := hid hx1
        have K1 := check_acc (digest := digest) (key := key) (there := false) TT.out LP.out RP.out pb kb LA.out RA.out
        rw [← hx1] at K1
        have HK1 := hid K1
        clear hx1 K1
        go_wp2_with fail
        refine HK1.out.mono ?_
        rintro e w5 ⟨rfl, b5⟩
        clear HK1
        replace TT := hid (TT.out.below b5)
        replace RA := hid (RA.out.below b5)
        replace RB := hid (RB.out.below b5)
        replace RP := hid (RP.out.below b5)
        replace RQ := hid (RQ.out.below b5)
        replace BB := hid (below_then BB.out b5)
        clear b5
        cases x1 with
        | false => 
          cases ok with
          | false => 
            go_wp2
            go_ret
            exact ⟨rfl, BB.out⟩
          | true => 
            have tn := OKN.out rfl
            go_wp2
            go_ret
            exact ⟨rfl, BB.out⟩
        | true => 
          obtain ⟨x2, hx2⟩ : ∃ x, x = acceptB digest key rb false q := ⟨_, rfl⟩
          have X2 := hid hx2
          have K2 := check_acc (digest := digest) (key := key) (there := false) TT.out LQ.out RQ.out qb kb LB.out RB.out
          rw [← hx2] at K2
          have HK2 := hid K2
          clear hx2 K2
          go_wp2_with fail
          refine HK2.out.mono ?_
          rintro e w6 ⟨rfl, b6⟩
          clear HK2
          replace TT := hid (TT.out.below b6)
          replace RA := hid (RA.out.below b6)
          replace RB := hid (RB.out.below b6)
          replace RP := hid (RP.out.below b6)
          replace RQ := hid (RQ.out.below b6)
          replace BB := hid (below_then BB.out b6)
          clear b6
          cases x2 with
          | false => 
            cases ok with
            | false => 
              go_wp2
              go_ret
              exact ⟨rfl, BB.out⟩
            | true => 
              have tn := OKN.out rfl
              go_wp2
              go_ret
              exact ⟨rfl, BB.out⟩
          | true => 
            cases be with
            | false => 
              cases ok with
              | false => 
                go_wp2
                go_ret
                exact ⟨rfl, BB.out⟩
              | true => 
                have tn := OKN.out rfl
                go_wp2
                go_ret
                exact ⟨rfl, BB.out⟩
            | true => 
              cases ok with
              | false => 
                go_wp2
                go_ret
                exact ⟨rfl, BB.out⟩
              | true => 
                have tn := OKN.out rfl
                go_wp2
                go_ret
                exact ⟨rfl, BB.out⟩
      | true => 
        obtain ⟨x1, hx1⟩ : ∃ x, x = acceptB digest key ra false p := ⟨_, rfl⟩
        have X1 := hid hx1
        have K1 := check_acc (digest := digest) (key := key) (there := false) TT.out LP.out RP.out pb kb LA.out RA.out
        rw [← hx1] at K1
        have HK1 := hid K1
        clear hx1 K1
        go_wp2_with fail
        refine HK1.out.mono ?_
        rintro e w5 ⟨rfl, b5⟩
        clear HK1
        replace TT := hid (TT.out.below b5)
        replace RA := hid (RA.out.below b5)
        replace RB := hid (RB.out.below b5)
        replace RP := hid (RP.out.below b5)
        replace RQ := hid (RQ.out.below b5)
        replace BB := hid (below_then BB.out b5)
        clear b5
        cases x1 with
        | false => 
          cases ok with
          | false => 
            go_wp2
            go_ret
            exact ⟨rfl, BB.out⟩
          | true => 
            have tn := OKN.out rfl
            go_wp2
            go_ret
            exact ⟨rfl, BB.out⟩
        | true => 
          obtain ⟨x2, hx2⟩ : ∃ x, x = acceptB digest key rb true q := ⟨_, rfl⟩
          have X2 := hid hx2
          have K2 := check_acc (digest := digest) (key := key) (there := true) TT.out LQ.out RQ.out qb kb LB.out RB.out
          rw [← hx2] at K2
          have HK2 := hid K2
          clear hx2 K2
          go_wp2_with fail
          refine HK2.out.mono ?_
          rintro e w6 ⟨rfl, b6⟩
          clear HK2
          replace TT := hid (TT.out.below b6)
          replace RA := hid (RA.out.below b6)
          replace RB := hid (RB.out.below b6)
          replace RP := hid (RP.out.below b6)
          replace RQ := hid (RQ.out.below b6)
          replace BB := hid (below_then BB.out b6)
          clear b6
          cases x2 with
          | false => 
            cases ok with
            | false => 
              go_wp2
              go_ret
              exact ⟨rfl, BB.out⟩
            | true => 
              have tn := OKN.out rfl
              go_wp2
              go_ret
              exact ⟨rfl, BB.out⟩
          | true => 
            cases ok with
            | false => 
              go_wp2
              go_ret
              exact ⟨rfl, BB.out⟩
            | true => 
              have tn := OKN.out rfl
              go_wp2
              go_ret
              exact ⟨rfl, BB.out⟩
    | true => 
      cases th2 with
      | false => 
        obtain ⟨x1, hx1⟩ : ∃ x, x = acceptB digest key ra true p := ⟨_, rfl⟩
        have X1 := hid hx1
        have K1 := check_acc (digest := digest) (key := key) (there := true) TT.out LP.out RP.out pb kb LA.out RA.out
        rw [← hx1] at K1
        have HK1 := hid K1
        clear hx1 K1
        go_wp2_with fail
        refine HK1.out.mono ?_
        rintro e w5 ⟨rfl, b5⟩
        clear HK1
        replace TT := hid (TT.out.below b5)
        replace RA := hid (RA.out.below b5)
        replace RB := hid (RB.out.below b5)
        replace RP := hid (RP.out.below b5)
        replace RQ := hid (RQ.out.below b5)
        replace BB := hid (below_then BB.out b5)
        clear b5
        cases x1 with
        | false => 
          cases ok with
          | false => 
            go_wp2
            go_ret
            exact ⟨rfl, BB.out⟩
          | true => 
            have tn := OKN.out rfl
            go_wp2
            go_ret
            exact ⟨rfl, BB.out⟩
        | true => 
          obtain ⟨x2, hx2⟩ : ∃ x, x = acceptB digest key rb false q := ⟨_, rfl⟩
          have X2 := hid hx2
          have K2 := check_acc (digest := digest) (key := key) (there := false) TT.out LQ.out RQ.out qb kb LB.out RB.out
          rw [← hx2] at K2
          have HK2 := hid K2
          clear hx2 K2
          go_wp2_with fail
          refine HK2.out.mono ?_
          rintro e w6 ⟨rfl, b6⟩
          clear HK2
          replace TT := hid (TT.out.below b6)
          replace RA := hid (RA.out.below b6)
          replace RB := hid (RB.out.below b6)
          replace RP := hid (RP.out.below b6)
          replace RQ := hid (RQ.out.below b6)
          replace BB := hid (below_then BB.out b6)
          clear b6
          cases x2 with
          | false => 
            cases ok with
            | false => 
              go_wp2
              go_ret
              exact ⟨rfl, BB.out⟩
            | true => 
              have tn := OKN.out rfl
              go_wp2
              go_ret
              exact ⟨rfl, BB.out⟩
          | true => 
            cases ok with
            | false => 
              go_wp2
              go_ret
              exact ⟨rfl, BB.out⟩
            | true => 
              have tn := OKN.out rfl
              go_wp2
              go_ret
              exact ⟨rfl, BB.out⟩
      | true => 
        obtain ⟨be, hbe⟩ : ∃ b, b = decide (ra = rb) := ⟨_, rfl⟩
        have K0 := bytes_n LA.out LB.out RA.out RB.out
        rw [← hbe] at K0
        have HB := hid K0
        have UE : Hid (be = false → ra ≠ rb) := hid (fun h e => by rw [hbe] at h; simp [e] at h)
        clear K0 hbe
        go_wp2_with fail
        refine HB.out.mono ?_
        rintro e w4 ⟨rfl, b4⟩
        clear HB
        replace TT := hid (TT.out.below b4)
        replace RA := hid (RA.out.below b4)
        replace RB := hid (RB.out.below b4)
        replace RP := hid (RP.out.below b4)
        replace RQ := hid (RQ.out.below b4)
        replace BB := hid (below_then BB.out b4)
        clear b4
        obtain ⟨x1, hx1⟩ : ∃ x, x = acceptB digest key ra true p := ⟨_, rfl⟩
        have X1 := hid hx1
        have K1 := check_acc (digest := digest) (key := key) (there := true) TT.out LP.out RP.out pb kb LA.out RA.out
        rw [← hx1] at K1
        have HK1 := hid K1
        clear hx1 K1
        go_wp2_with fail
        refine HK1.out.mono ?_
        rintro e w5 ⟨rfl, b5⟩
        clear HK1
        replace TT := hid (TT.out.below b5)
        replace RA := hid (RA.out.below b5)
        replace RB := hid (RB.out.below b5)
        replace RP := hid (RP.out.below b5)
        replace RQ := hid (RQ.out.below b5)
        replace BB := hid (below_then BB.out b5)
        clear b5
        cases x1 with
        | false => 
          cases ok with
          | false => 
            go_wp2
            go_ret
            exact ⟨rfl, BB.out⟩
          | true => 
            have tn := OKN.out rfl
            go_wp2
            go_ret
            exact ⟨rfl, BB.out⟩
        | true => 
          obtain ⟨x2, hx2⟩ : ∃ x, x = acceptB digest key rb true q := ⟨_, rfl⟩
          have X2 := hid hx2
          have K2 := check_acc (digest := digest) (key := key) (there := true) TT.out LQ.out RQ.out qb kb LB.out RB.out
          rw [← hx2] at K2
          have HK2 := hid K2
          clear hx2 K2
          go_wp2_with fail
          refine HK2.out.mono ?_
          rintro e w6 ⟨rfl, b6⟩
          clear HK2
          replace TT := hid (TT.out.below b6)
          replace RA := hid (RA.out.below b6)
          replace RB := hid (RB.out.below b6)
          replace RP := hid (RP.out.below b6)
          replace RQ := hid (RQ.out.below b6)
          replace BB := hid (below_then BB.out b6)
          clear b6
          cases x2 with
          | false => 
            cases ok with
            | false => 
              go_wp2
              go_ret
              exact ⟨rfl, BB.out⟩
            | true => 
              have tn := OKN.out rfl
              go_wp2
              go_ret
              exact ⟨rfl, BB.out⟩
          | true => 
            cases be with
            | false => 
              cases ok with
              | false => 
                go_wp2
                go_ret
                exact ⟨rfl, BB.out⟩
              | true => 
                have tn := OKN.out rfl
                go_wp2
                go_ret
                exact ⟨rfl, BB.out⟩
            | true => 
              cases ok with
              | false => 
                go_wp2
                go_ret
                exact ⟨rfl, BB.out⟩
              | true => 
                have tn := OKN.out rfl
                go_wp2
                go_ret
                exact ⟨rfl, BB.out⟩
end Go.Proofs.YtdhhaibefifdmaaGreatDoor
