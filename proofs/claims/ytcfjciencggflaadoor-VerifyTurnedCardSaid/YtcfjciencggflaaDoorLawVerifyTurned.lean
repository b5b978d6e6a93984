/- VerifyTurned: bytes that show something, in which one is another one, or that are cut. -/
import Derived.Test.YtcfjciencggflaaDoorV6
set_option linter.unusedVariables false
set_option linter.unusedSimpArgs false
namespace Go.Proofs.YtcfjciencggflaaDoor
open Go.RowKit PrintLast

/-- The head of what is hashed, as the walk wants it. -/
theorem heads_of {w : World} {B N c : Nat} {R : Option Addr} {ps : List Part} {key : ByteArray} {p : List UInt8} (h : ps.length = N ∧ true = (stepsP key p).isSome ∧ txs ps = (stepsP key p).getD []) (hL : LB w B R c ps) :
    ∃ top g a1 m2 d2, R = some ⟨g, 0, none⟩ ∧ w.cell? ⟨g, 0, none⟩ = some (.slice a1 m2 d2) ∧ BSA w a1 d2 top ∧ top.length = m2 ∧ top.length ≤ 1000 ∧ (0 : Int) < (N : Int) := by
  obtain ⟨h1, h2, h3⟩ := h
  cases hh : stepsP key p with
  | none => rw [hh] at h2; cases h2
  | some L =>
    obtain ⟨x, hx, hLL⟩ : ∃ x, readV p = some x ∧ stepsB key x.2.1 x.2.2 x.1 = L := by
      unfold stepsP at hh
      cases hr : readV p with
      | none => rw [hr] at hh; cases hh
      | some x => rw [hr] at hh; exact ⟨x, rfl, Option.some.inj hh⟩
    obtain ⟨top, rst, hup, hlen⟩ := stepsB_top key x.2.1 x.2.2 x.1
    obtain ⟨f1, f2, f3, f4⟩ := readV_fits hx
    rw [hh, Option.getD_some, ← hLL, hup] at h3
    have h0 : 0 < ps.length := by
      have := congrArg List.length h3
      rw [txs_length] at this
      rw [this]
      exact Nat.succ_pos _
    obtain ⟨g, rfl⟩ := hL.place h0
    have t0 : (ps[0]).2.2 = top := head_text h3 h0
    refine ⟨top, g, (ps[0]).1, top.length, (ps[0]).2.1, rfl, ?_, ?_, rfl, by rw [f2, f3] at hlen; omega, by omega⟩
    · have := hL.cell 0 h0
      unfold partV at this
      rw [t0] at this
      exact this
    · have := hL.elem 0 h0
      rw [t0] at this
      exact this

set_option maxRecDepth 100000 in
set_option maxHeartbeats 25600000 in
theorem vturned_walk {w : World} (hT : Table w) {A : Option Addr} {cap : Nat} {l : List PAct} {u' at' y' : Int} {cut : Bool} (h0 : l.length ≤ cap ∧ cap ≤ maxLen ∧ PActsAt w A l) (hu : (Lit.int .u8 u').wf = true) (ha : (Lit.int .u16 at').wf = true) (hy : (Lit.int .u8 y').wf = true) :
    Calls Tryd.prog 7 #[.slice A l.length cap, .int .u8 u', .int .u16 at', .int .u8 y', .bool cut] w fun e w' => e = .returned (.bool true) ∧ Below w.heap.size w w' := by
  obtain ⟨u, rfl⟩ : ∃ b8 : UInt8, u' = (b8.toNat : Int) := ⟨UInt8.ofNat u'.toNat, (u8_of_int hu).symm⟩
  obtain ⟨y, rfl⟩ : ∃ b8 : UInt8, y' = (b8.toNat : Int) := ⟨UInt8.ofNat y'.toNat, (u8_of_int hy).symm⟩
  have ha' := bounds_u16 ha
  obtain ⟨at', rfl⟩ : ∃ N : Nat, at' = (N : Int) := ⟨at'.toNat, by omega⟩
  have hat : at' < 65536 := by omega
  obtain ⟨n, hn⟩ : ∃ n, n = l.length := ⟨_, rfl⟩
  rw [← hn] at h0 ⊢
  have HN := hid hn.symm
  have HC := hid (And.intro h0.1 h0.2.1)
  have AA := hid h0.2.2
  have TT := hid hT
  have BB := hid (Below.refl w.heap.size w)
  clear hn hT h0 hu hy ha ha'
  by_cases hsm : SmallL l
  · have hd : decide (SmallL l) = true := by simp [hsm]
    have SM := hid hsm
    have HD := hid hd
    clear hsm hd
    go_enter Tryd.func7, Tryd.ntmps7
    have HC1 := hid (vlink_any TT.out)
    go_wp2_with fail
    refine HC1.out.mono ?_
    rintro e w1 ⟨rfl, b1⟩
    clear HC1
    replace TT := hid (TT.out.below b1)
    replace AA := hid (AA.out.below b1)
    replace BB := hid (below_then BB.out b1)
    clear b1
    have S0 := small_any HN.out AA.out HC.out.1 HC.out.2
    rw [HD.out] at S0
    have S1 := hid S0
    clear S0
    go_wp2_with fail
    refine S1.out.mono ?_
    rintro e w2 ⟨rfl, rfl⟩
    clear S1
    obtain ⟨kb, hkb⟩ : ∃ kb : UInt8, kb = u % 26 := ⟨_, rfl⟩
    have e1 : (u.toNat : Int) % 26 = (kb.toNat : Int) := by rw [hkb, UInt8.toNat_mod]; rfl
    have cv := key_conv w1 kb
    have al := below_alloc (Below.refl _ w1) (.cells #[.int .u8 107, .int .u8 (kb.toNat : Int)] 5)
    clear hkb
    replace TT := hid (TT.out.below al)
    replace AA := hid (AA.out.below al)
    replace BB := hid (below_then BB.out al)
    clear al
    go_upto_region 4 with fail
    generalize w1.alloc (.cells #[.int .u8 107, .int .u8 (kb.toNat : Int)] 5) = w4 at *
    clear cv e1
    obtain ⟨k1, hk1⟩ : ∃ k1, k1 = key2 kb := ⟨_, rfl⟩
    have KBk1 := hid (show k1.size ≤ 60000 by rw [hk1, key2_size]; omega)
    rw [← hk1]
    clear hk1
    have HC2 := hid (shown_any (key := k1) (seed := []) TT.out HN.out AA.out HC.out.1 SM.out KBk1.out rfl (BSA.nil _) (by decide))
    go_wp2_with fail
    refine HC2.out.mono ?_
    rintro e w5 ⟨d, RA, rm, rc, PA, n0, pk, ok, ll, row, rfl, SH, b5⟩
    clear HC2
    replace TT := hid (TT.out.below b5)
    replace AA := hid (AA.out.below b5)
    replace BB := hid (below_then BB.out b5)
    clear b5
    clear AA
    obtain ⟨P, hP⟩ : ∃ P, P = layB (dig []) (dig ([] ++ [1])) (buildT (treeF 256 ll) k1) := ⟨_, rfl⟩
    have NB := hid (show n0 ≤ 1000000 by rw [← SH.out.2.2.2.2.2.1]; have := (lay_length (dig_size []) (dig_size ([] ++ [1])) (built_fits SH.out.1 k1)).1; omega)
    have ACC := hid (SH.out.acc)
    have PL := hid SH.out.2.2.2.2.2.1
    have PB := hid SH.out.2.2.2.2.2.2.1
    rw [← hP] at ACC PL PB
    have RL := hid SH.out.2.1
    have RB := hid SH.out.2.2.1
    have HP := hid hP
    clear hP
    have N64 : 64 ≤ n0 := by rw [← SH.out.2.2.2.2.2.1]; exact (lay_length (dig_size []) (dig_size ([] ++ [1])) (built_fits SH.out.1 k1)).2
    clear SH
    have n0b : n0 ≤ 1000000 := NB.out
    have J0 := join_gave (n2 := 0) (y := []) PL.out rfl (List.append_nil P) PB.out (BSA.nil _) (by rw [PL.out]; omega)
    have J1 := hid J0
    clear J0
    go_wp2_with fail
    refine J1.out.mono ?_
    rintro e w6 ⟨A6, c6, rfl, r6, b6⟩
    clear J1
    rw [PL.out]
    obtain ⟨g6, rfl⟩ := r6.place (by rw [PL.out]; omega)
    obtain ⟨cur, hg6, hcur, hbase⟩ := r6.heap
    obtain ⟨k, hk⟩ : ∃ k, k = at' % n0 := ⟨_, rfl⟩
    have hkN : k < n0 := by rw [hk]; exact Nat.mod_lt _ (by omega)
    have e1 : (at' : Int) % (n0 : Int) = (k : Int) := by rw [hk]; rfl
    have t2 : ((n0 : Int) == 0) = false := by rw [beq_eq_false_iff_ne]; omega
    have hkP : k < P.length := by rw [PL.out]; exact hkN
    have ck := r6.bsa.2.2.2 _ rfl k hkP
    rw [add_plain] at ck
    have fk := free_at hg6 k
    obtain ⟨x0, hx0⟩ : ∃ x0, x0 = P[k] := ⟨_, rfl⟩
    rw [← hx0] at ck
    have e2 : bits .xor .u8 (x0.toNat : Int) (y.toNat : Int) = (((x0 ^^^ y : UInt8)).toNat : Int) := by
      rw [u8_xor_nat _ _ x0.toNat_lt y.toNat_lt, UInt8.toNat_xor]
    have hc1 : n0 ≤ c6 := by rw [← PL.out]; exact r6.bsa.1
    have hc2 := r6.bsa.2.1
    unfold maxLen at hc2
    have R7 := r6.set k (x0 ^^^ y)
    obtain ⟨z, hz⟩ : ∃ z, z = x0 ^^^ y := ⟨_, rfl⟩
    rw [← hz] at R7 e2
    have B57 : Below w5.heap.size w5 (w6.setCell ⟨g6, k, none⟩ (.int .u8 (z.toNat : Int))) := b6.setCell (p := ⟨g6, k, none⟩) hbase _
    have SAME := hid (show y = 0 → P.set k z = P from fun e => by
      have hz0 : z = x0 := by rw [hz, e]; simp
      rw [hz0, hx0]
      exact List.set_getElem_self hkP)
    have LS := hid (show (P.set k z).length = n0 by rw [List.length_set, PL.out])
    have HR7 := hid (And.intro R7.bsa B57)
    have HK := hid hk
    clear r6 b6 hg6 hcur hbase hk hx0 hz R7 B57 hkP
    go_upto_if 58 with fail
    generalize w6.setCell ⟨g6, k, none⟩ (.int .u8 (z.toNat : Int)) = w7 at *
    try rw [e1]
    clear ck fk e1 e2 t2
    replace TT := hid (TT.out.below HR7.out.2)
    replace RB := hid (RB.out.below HR7.out.2)
    replace BB := hid (below_then BB.out HR7.out.2)
    have Q7 := hid HR7.out.1
    clear PB HR7
    go_cut [16] (fun v wx => ∃ (Aq : Option Addr) (nq cq : Nat) (Q : List UInt8), v = .slice Aq nq cq ∧ Hid (Q.length = nq) ∧ Hid (nq ≤ 1000000) ∧ Hid (BSA wx Aq cq Q) ∧ Hid (y = 0 → cut = false → Q = P) ∧ w7 = wx)
    case first =>
      cases cut with
      | true =>
        obtain ⟨cr, cl⟩ := cut_head (k := k) (kk := (k : Int)) rfl LS.out Q7.out (by omega)
        have CL := hid cl
        clear cl
        go_wp2
        go_meet
        exact ⟨_, k, c6, (P.set k z).take k, (by first | rfl | rw [HK.out]), CL, hid (by omega), hid (Q7.out.head k), hid (fun _ h => by cases h), rfl⟩
      | false =>
        go_wp2
        go_meet
        exact ⟨_, n0, c6, P.set k z, rfl, LS, hid n0b, Q7, hid (fun h _ => SAME.out h), rfl⟩
    obtain ⟨Aq, nq, cq, Q, rfl, QL, QN, QB, QE, rfl⟩ := hcut
    clear LS SAME Q7 hkN hc1 hc2
    have qn9 : nq ≤ 1000000 := QN.out
    obtain ⟨zb, ez, hzb⟩ : ∃ zb : Bool, ((y.toNat : Int) == 0) = zb ∧ (zb = true → y = 0) := ⟨_, rfl, fun h => by
      have h1 : (y.toNat : Int) = 0 := by simpa using h
      have h2 : y.toNat = (0 : UInt8).toNat := by simp; omega
      exact UInt8.toNat_inj.1 h2⟩
    have HZB := hid hzb
    clear hzb
    cases zb with
    | true =>
      cases cut with
      | false =>
        have EQ : Q = P := QE.out (HZB.out rfl) rfl
        have S0 := check_acc (digest := d) (key := k1) (row := row) (there := ok) TT.out QL.out QB.out QN.out KBk1.out RL.out RB.out
        rw [show acceptB d k1 row ok Q = true by rw [EQ, ACC.out]; simp] at S0
        have S1 := hid S0
        clear S0 EQ
        go_wp2_with fail
        refine S1.out.mono ?_
        rintro e w8 ⟨rfl, b8⟩
        have BF := below_then BB.out b8
        go_wp2
        go_ret
        exact ⟨rfl, BF⟩
      | true =>
        have HS := hid (rsteps_any (key := k1) QL.out QB.out QN.out KBk1.out)
        go_wp2_with fail
        refine HS.out.mono ?_
        rintro e w8 ⟨SR, SN, sc, sok, sps, rfl, HV, L8, b8⟩
        clear HS
        replace TT := hid (TT.out.below b8)
        replace RB := hid (RB.out.below b8)
        replace QB := hid (QB.out.below b8)
        replace BB := hid (below_then BB.out b8)
        cases sok with
        | false =>
          clear L8 b8
          obtain ⟨acf, hac⟩ : ∃ ac, ac = acceptB d k1 row ok Q := ⟨_, rfl⟩
          have HAf := hid hac
          have ttf : (acf == acf) = true := beq_self_eq_true _
          clear hac
          have S0 := check_acc (digest := d) (key := k1) (row := row) (there := ok) TT.out QL.out QB.out QN.out KBk1.out RL.out RB.out
          rw [← HAf.out] at S0
          have S1 := hid S0
          clear S0
          go_wp2_with fail
          refine S1.out.mono ?_
          rintro e wpf ⟨rfl, bp⟩
          clear S1
          replace TT := hid (TT.out.below bp)
          replace RB := hid (RB.out.below bp)
          replace QB := hid (QB.out.below bp)
          replace BB := hid (below_then BB.out bp)
          clear bp
          have S0 := rcheck_acc (digest := d) (key := k1) (row := row) (there := ok) QL.out QB.out QN.out KBk1.out RL.out RB.out
          rw [← HAf.out] at S0
          have S1 := hid S0
          clear S0
          go_wp2_with fail
          refine S1.out.mono ?_
          rintro e wrf ⟨rfl, bp⟩
          clear S1
          replace TT := hid (TT.out.below bp)
          replace RB := hid (RB.out.below bp)
          replace QB := hid (QB.out.below bp)
          replace BB := hid (below_then BB.out bp)
          clear bp
          have HC1 := hid (vsteps_any (key := k1) TT.out QL.out QB.out QN.out KBk1.out)
          go_wp2_with fail
          refine HC1.out.mono ?_
          rintro e w19 ⟨rfl, b19⟩
          clear HC1
          replace TT := hid (TT.out.below b19)
          replace RB := hid (RB.out.below b19)
          replace QB := hid (QB.out.below b19)
          replace BB := hid (below_then BB.out b19)
          clear b19
          go_wp2
          go_ret
          exact ⟨rfl, BB.out⟩
        | true =>
          obtain ⟨top, g, a1, m2, d2, rfl, c0, e0, hm1, tl, i1⟩ := heads_of HV.out L8
          have HC := hid (rsum_dig (w := w8) hm1 e0 (by omega))
          obtain ⟨dt, hdt⟩ : ∃ dt, dt = dig top := ⟨_, rfl⟩
          rw [← hdt] at HC
          clear L8 b8 e0 hm1 tl hdt
          go_wp2_with fail
          refine HC.out.mono ?_
          rintro e w9 ⟨rfl, b9⟩
          replace TT := hid (TT.out.below b9)
          replace RB := hid (RB.out.below b9)
          replace QB := hid (QB.out.below b9)
          replace BB := hid (below_then BB.out b9)
          clear HC b9 c0 i1
          obtain ⟨acg, hac⟩ : ∃ ac, ac = acceptB dt k1 row ok Q := ⟨_, rfl⟩
          have HAg := hid hac
          have ttg : (acg != acg) = false := by cases acg <;> rfl
          clear hac
          have S0 := check_acc (digest := dt) (key := k1) (row := row) (there := ok) TT.out QL.out QB.out QN.out KBk1.out RL.out RB.out
          rw [← HAg.out] at S0
          have S1 := hid S0
          clear S0
          go_wp2_with fail
          refine S1.out.mono ?_
          rintro e wpg ⟨rfl, bp⟩
          clear S1
          replace TT := hid (TT.out.below bp)
          replace RB := hid (RB.out.below bp)
          replace QB := hid (QB.out.below bp)
          replace BB := hid (below_then BB.out bp)
          clear bp
          have S0 := rcheck_acc (digest := dt) (key := k1) (row := row) (there := ok) QL.out QB.out QN.out KBk1.out RL.out RB.out
          rw [← HAg.out] at S0
          have S1 := hid S0
          clear S0
          go_wp2_with fail
          refine S1.out.mono ?_
          rintro e wrg ⟨rfl, bp⟩
          clear S1
          replace TT := hid (TT.out.below bp)
          replace RB := hid (RB.out.below bp)
          replace QB := hid (QB.out.below bp)
          replace BB := hid (below_then BB.out bp)
          clear bp
          obtain ⟨ach, hac⟩ : ∃ ac, ac = acceptB dt k1 [] false Q := ⟨_, rfl⟩
          have HAh := hid hac
          have tth : (ach != ach) = false := by cases ach <;> rfl
          clear hac
          have S0 := check_acc (digest := dt) (key := k1) (row := []) (there := false) TT.out QL.out QB.out QN.out KBk1.out rfl (BSA.nil _)
          rw [← HAh.out] at S0
          have S1 := hid S0
          clear S0
          go_wp2_with fail
          refine S1.out.mono ?_
          rintro e wph ⟨rfl, bp⟩
          clear S1
          replace TT := hid (TT.out.below bp)
          replace RB := hid (RB.out.below bp)
          replace QB := hid (QB.out.below bp)
          replace BB := hid (below_then BB.out bp)
          clear bp
          have S0 := rcheck_acc (digest := dt) (key := k1) (row := []) (there := false) QL.out QB.out QN.out KBk1.out rfl (BSA.nil _)
          rw [← HAh.out] at S0
          have S1 := hid S0
          clear S0
          go_wp2_with fail
          refine S1.out.mono ?_
          rintro e wrh ⟨rfl, bp⟩
          clear S1
          replace TT := hid (TT.out.below bp)
          replace RB := hid (RB.out.below bp)
          replace QB := hid (QB.out.below bp)
          replace BB := hid (below_then BB.out bp)
          clear bp
          obtain ⟨acf, hac⟩ : ∃ ac, ac = acceptB d k1 row ok Q := ⟨_, rfl⟩
          have HAf := hid hac
          have ttf : (acf == acf) = true := beq_self_eq_true _
          clear hac
          have S0 := check_acc (digest := d) (key := k1) (row := row) (there := ok) TT.out QL.out QB.out QN.out KBk1.out RL.out RB.out
          rw [← HAf.out] at S0
          have S1 := hid S0
          clear S0
          go_wp2_with fail
          refine S1.out.mono ?_
          rintro e wpf ⟨rfl, bp⟩
          clear S1
          replace TT := hid (TT.out.below bp)
          replace RB := hid (RB.out.below bp)
          replace QB := hid (QB.out.below bp)
          replace BB := hid (below_then BB.out bp)
          clear bp
          have S0 := rcheck_acc (digest := d) (key := k1) (row := row) (there := ok) QL.out QB.out QN.out KBk1.out RL.out RB.out
          rw [← HAf.out] at S0
          have S1 := hid S0
          clear S0
          go_wp2_with fail
          refine S1.out.mono ?_
          rintro e wrf ⟨rfl, bp⟩
          clear S1
          replace TT := hid (TT.out.below bp)
          replace RB := hid (RB.out.below bp)
          replace QB := hid (QB.out.below bp)
          replace BB := hid (below_then BB.out bp)
          clear bp
          have HC1 := hid (vsteps_any (key := k1) TT.out QL.out QB.out QN.out KBk1.out)
          go_wp2_with fail
          refine HC1.out.mono ?_
          rintro e w19 ⟨rfl, b19⟩
          clear HC1
          replace TT := hid (TT.out.below b19)
          replace RB := hid (RB.out.below b19)
          replace QB := hid (QB.out.below b19)
          replace BB := hid (below_then BB.out b19)
          clear b19
          go_wp2
          go_ret
          exact ⟨rfl, BB.out⟩
    | false =>
      cases cut with
      | false =>
        have HS := hid (rsteps_any (key := k1) QL.out QB.out QN.out KBk1.out)
        go_wp2_with fail
        refine HS.out.mono ?_
        rintro e w8 ⟨SR, SN, sc, sok, sps, rfl, HV, L8, b8⟩
        clear HS
        replace TT := hid (TT.out.below b8)
        replace RB := hid (RB.out.below b8)
        replace QB := hid (QB.out.below b8)
        replace BB := hid (below_then BB.out b8)
        cases sok with
        | false =>
          clear L8 b8
          obtain ⟨acf, hac⟩ : ∃ ac, ac = acceptB d k1 row ok Q := ⟨_, rfl⟩
          have HAf := hid hac
          have ttf : (acf == acf) = true := beq_self_eq_true _
          clear hac
          have S0 := check_acc (digest := d) (key := k1) (row := row) (there := ok) TT.out QL.out QB.out QN.out KBk1.out RL.out RB.out
          rw [← HAf.out] at S0
          have S1 := hid S0
          clear S0
          go_wp2_with fail
          refine S1.out.mono ?_
          rintro e wpf ⟨rfl, bp⟩
          clear S1
          replace TT := hid (TT.out.below bp)
          replace RB := hid (RB.out.below bp)
          replace QB := hid (QB.out.below bp)
          replace BB := hid (below_then BB.out bp)
          clear bp
          have S0 := rcheck_acc (digest := d) (key := k1) (row := row) (there := ok) QL.out QB.out QN.out KBk1.out RL.out RB.out
          rw [← HAf.out] at S0
          have S1 := hid S0
          clear S0
          go_wp2_with fail
          refine S1.out.mono ?_
          rintro e wrf ⟨rfl, bp⟩
          clear S1
          replace TT := hid (TT.out.below bp)
          replace RB := hid (RB.out.below bp)
          replace QB := hid (QB.out.below bp)
          replace BB := hid (below_then BB.out bp)
          clear bp
          have HC1 := hid (vsteps_any (key := k1) TT.out QL.out QB.out QN.out KBk1.out)
          go_wp2_with fail
          refine HC1.out.mono ?_
          rintro e w19 ⟨rfl, b19⟩
          clear HC1
          replace TT := hid (TT.out.below b19)
          replace RB := hid (RB.out.below b19)
          replace QB := hid (QB.out.below b19)
          replace BB := hid (below_then BB.out b19)
          clear b19
          go_wp2
          go_ret
          exact ⟨rfl, BB.out⟩
        | true =>
          obtain ⟨top, g, a1, m2, d2, rfl, c0, e0, hm1, tl, i1⟩ := heads_of HV.out L8
          have HC := hid (rsum_dig (w := w8) hm1 e0 (by omega))
          obtain ⟨dt, hdt⟩ : ∃ dt, dt = dig top := ⟨_, rfl⟩
          rw [← hdt] at HC
          clear L8 b8 e0 hm1 tl hdt
          go_wp2_with fail
          refine HC.out.mono ?_
          rintro e w9 ⟨rfl, b9⟩
          replace TT := hid (TT.out.below b9)
          replace RB := hid (RB.out.below b9)
          replace QB := hid (QB.out.below b9)
          replace BB := hid (below_then BB.out b9)
          clear HC b9 c0 i1
          obtain ⟨acg, hac⟩ : ∃ ac, ac = acceptB dt k1 row ok Q := ⟨_, rfl⟩
          have HAg := hid hac
          have ttg : (acg != acg) = false := by cases acg <;> rfl
          clear hac
          have S0 := check_acc (digest := dt) (key := k1) (row := row) (there := ok) TT.out QL.out QB.out QN.out KBk1.out RL.out RB.out
          rw [← HAg.out] at S0
          have S1 := hid S0
          clear S0
          go_wp2_with fail
          refine S1.out.mono ?_
          rintro e wpg ⟨rfl, bp⟩
          clear S1
          replace TT := hid (TT.out.below bp)
          replace RB := hid (RB.out.below bp)
          replace QB := hid (QB.out.below bp)
          replace BB := hid (below_then BB.out bp)
          clear bp
          have S0 := rcheck_acc (digest := dt) (key := k1) (row := row) (there := ok) QL.out QB.out QN.out KBk1.out RL.out RB.out
          rw [← HAg.out] at S0
          have S1 := hid S0
          clear S0
          go_wp2_with fail
          refine S1.out.mono ?_
          rintro e wrg ⟨rfl, bp⟩
          clear S1
          replace TT := hid (TT.out.below bp)
          replace RB := hid (RB.out.below bp)
          replace QB := hid (QB.out.below bp)
          replace BB := hid (below_then BB.out bp)
          clear bp
          obtain ⟨ach, hac⟩ : ∃ ac, ac = acceptB dt k1 [] false Q := ⟨_, rfl⟩
          have HAh := hid hac
          have tth : (ach != ach) = false := by cases ach <;> rfl
          clear hac
          have S0 := check_acc (digest := dt) (key := k1) (row := []) (there := false) TT.out QL.out QB.out QN.out KBk1.out rfl (BSA.nil _)
          rw [← HAh.out] at S0
          have S1 := hid S0
          clear S0
          go_wp2_with fail
          refine S1.out.mono ?_
          rintro e wph ⟨rfl, bp⟩
          clear S1
          replace TT := hid (TT.out.below bp)
          replace RB := hid (RB.out.below bp)
          replace QB := hid (QB.out.below bp)
          replace BB := hid (below_then BB.out bp)
          clear bp
          have S0 := rcheck_acc (digest := dt) (key := k1) (row := []) (there := false) QL.out QB.out QN.out KBk1.out rfl (BSA.nil _)
          rw [← HAh.out] at S0
          have S1 := hid S0
          clear S0
          go_wp2_with fail
          refine S1.out.mono ?_
          rintro e wrh ⟨rfl, bp⟩
          clear S1
          replace TT := hid (TT.out.below bp)
          replace RB := hid (RB.out.below bp)
          replace QB := hid (QB.out.below bp)
          replace BB := hid (below_then BB.out bp)
          clear bp
          obtain ⟨acf, hac⟩ : ∃ ac, ac = acceptB d k1 row ok Q := ⟨_, rfl⟩
          have HAf := hid hac
          have ttf : (acf == acf) = true := beq_self_eq_true _
          clear hac
          have S0 := check_acc (digest := d) (key := k1) (row := row) (there := ok) TT.out QL.out QB.out QN.out KBk1.out RL.out RB.out
          rw [← HAf.out] at S0
          have S1 := hid S0
          clear S0
          go_wp2_with fail
          refine S1.out.mono ?_
          rintro e wpf ⟨rfl, bp⟩
          clear S1
          replace TT := hid (TT.out.below bp)
          replace RB := hid (RB.out.below bp)
          replace QB := hid (QB.out.below bp)
          replace BB := hid (below_then BB.out bp)
          clear bp
          have S0 := rcheck_acc (digest := d) (key := k1) (row := row) (there := ok) QL.out QB.out QN.out KBk1.out RL.out RB.out
          rw [← HAf.out] at S0
          have S1 := hid S0
          clear S0
          go_wp2_with fail
          refine S1.out.mono ?_
          rintro e wrf ⟨rfl, bp⟩
          clear S1
          replace TT := hid (TT.out.below bp)
          replace RB := hid (RB.out.below bp)
          replace QB := hid (QB.out.below bp)
          replace BB := hid (below_then BB.out bp)
          clear bp
          have HC1 := hid (vsteps_any (key := k1) TT.out QL.out QB.out QN.out KBk1.out)
          go_wp2_with fail
          refine HC1.out.mono ?_
          rintro e w19 ⟨rfl, b19⟩
          clear HC1
          replace TT := hid (TT.out.below b19)
          replace RB := hid (RB.out.below b19)
          replace QB := hid (QB.out.below b19)
          replace BB := hid (below_then BB.out b19)
          clear b19
          go_wp2
          go_ret
          exact ⟨rfl, BB.out⟩
      | true =>
        have HS := hid (rsteps_any (key := k1) QL.out QB.out QN.out KBk1.out)
        go_wp2_with fail
        refine HS.out.mono ?_
        rintro e w8 ⟨SR, SN, sc, sok, sps, rfl, HV, L8, b8⟩
        clear HS
        replace TT := hid (TT.out.below b8)
        replace RB := hid (RB.out.below b8)
        replace QB := hid (QB.out.below b8)
        replace BB := hid (below_then BB.out b8)
        cases sok with
        | false =>
          clear L8 b8
          obtain ⟨acf, hac⟩ : ∃ ac, ac = acceptB d k1 row ok Q := ⟨_, rfl⟩
          have HAf := hid hac
          have ttf : (acf == acf) = true := beq_self_eq_true _
          clear hac
          have S0 := check_acc (digest := d) (key := k1) (row := row) (there := ok) TT.out QL.out QB.out QN.out KBk1.out RL.out RB.out
          rw [← HAf.out] at S0
          have S1 := hid S0
          clear S0
          go_wp2_with fail
          refine S1.out.mono ?_
          rintro e wpf ⟨rfl, bp⟩
          clear S1
          replace TT := hid (TT.out.below bp)
          replace RB := hid (RB.out.below bp)
          replace QB := hid (QB.out.below bp)
          replace BB := hid (below_then BB.out bp)
          clear bp
          have S0 := rcheck_acc (digest := d) (key := k1) (row := row) (there := ok) QL.out QB.out QN.out KBk1.out RL.out RB.out
          rw [← HAf.out] at S0
          have S1 := hid S0
          clear S0
          go_wp2_with fail
          refine S1.out.mono ?_
          rintro e wrf ⟨rfl, bp⟩
          clear S1
          replace TT := hid (TT.out.below bp)
          replace RB := hid (RB.out.below bp)
          replace QB := hid (QB.out.below bp)
          replace BB := hid (below_then BB.out bp)
          clear bp
          have HC1 := hid (vsteps_any (key := k1) TT.out QL.out QB.out QN.out KBk1.out)
          go_wp2_with fail
          refine HC1.out.mono ?_
          rintro e w19 ⟨rfl, b19⟩
          clear HC1
          replace TT := hid (TT.out.below b19)
          replace RB := hid (RB.out.below b19)
          replace QB := hid (QB.out.below b19)
          replace BB := hid (below_then BB.out b19)
          clear b19
          go_wp2
          go_ret
          exact ⟨rfl, BB.out⟩
        | true =>
          obtain ⟨top, g, a1, m2, d2, rfl, c0, e0, hm1, tl, i1⟩ := heads_of HV.out L8
          have HC := hid (rsum_dig (w := w8) hm1 e0 (by omega))
          obtain ⟨dt, hdt⟩ : ∃ dt, dt = dig top := ⟨_, rfl⟩
          rw [← hdt] at HC
          clear L8 b8 e0 hm1 tl hdt
          go_wp2_with fail
          refine HC.out.mono ?_
          rintro e w9 ⟨rfl, b9⟩
          replace TT := hid (TT.out.below b9)
          replace RB := hid (RB.out.below b9)
          replace QB := hid (QB.out.below b9)
          replace BB := hid (below_then BB.out b9)
          clear HC b9 c0 i1
          obtain ⟨acg, hac⟩ : ∃ ac, ac = acceptB dt k1 row ok Q := ⟨_, rfl⟩
          have HAg := hid hac
          have ttg : (acg != acg) = false := by cases acg <;> rfl
          clear hac
          have S0 := check_acc (digest := dt) (key := k1) (row := row) (there := ok) TT.out QL.out QB.out QN.out KBk1.out RL.out RB.out
          rw [← HAg.out] at S0
          have S1 := hid S0
          clear S0
          go_wp2_with fail
          refine S1.out.mono ?_
          rintro e wpg ⟨rfl, bp⟩
          clear S1
          replace TT := hid (TT.out.below bp)
          replace RB := hid (RB.out.below bp)
          replace QB := hid (QB.out.below bp)
          replace BB := hid (below_then BB.out bp)
          clear bp
          have S0 := rcheck_acc (digest := dt) (key := k1) (row := row) (there := ok) QL.out QB.out QN.out KBk1.out RL.out RB.out
          rw [← HAg.out] at S0
          have S1 := hid S0
          clear S0
          go_wp2_with fail
          refine S1.out.mono ?_
          rintro e wrg ⟨rfl, bp⟩
          clear S1
          replace TT := hid (TT.out.below bp)
          replace RB := hid (RB.out.below bp)
          replace QB := hid (QB.out.below bp)
          replace BB := hid (below_then BB.out bp)
          clear bp
          obtain ⟨ach, hac⟩ : ∃ ac, ac = acceptB dt k1 [] false Q := ⟨_, rfl⟩
          have HAh := hid hac
          have tth : (ach != ach) = false := by cases ach <;> rfl
          clear hac
          have S0 := check_acc (digest := dt) (key := k1) (row := []) (there := false) TT.out QL.out QB.out QN.out KBk1.out rfl (BSA.nil _)
          rw [← HAh.out] at S0
          have S1 := hid S0
          clear S0
          go_wp2_with fail
          refine S1.out.mono ?_
          rintro e wph ⟨rfl, bp⟩
          clear S1
          replace TT := hid (TT.out.below bp)
          replace RB := hid (RB.out.below bp)
          replace QB := hid (QB.out.below bp)
          replace BB := hid (below_then BB.out bp)
          clear bp
          have S0 := rcheck_acc (digest := dt) (key := k1) (row := []) (there := false) QL.out QB.out QN.out KBk1.out rfl (BSA.nil _)
          rw [← HAh.out] at S0
          have S1 := hid S0
          clear S0
          go_wp2_with fail
          refine S1.out.mono ?_
          rintro e wrh ⟨rfl, bp⟩
          clear S1
          replace TT := hid (TT.out.below bp)
          replace RB := hid (RB.out.below bp)
          replace QB := hid (QB.out.below bp)
          replace BB := hid (below_then BB.out bp)
          clear bp
          obtain ⟨acf, hac⟩ : ∃ ac, ac = acceptB d k1 row ok Q := ⟨_, rfl⟩
          have HAf := hid hac
          have ttf : (acf == acf) = true := beq_self_eq_true _
          clear hac
          have S0 := check_acc (digest := d) (key := k1) (row := row) (there := ok) TT.out QL.out QB.out QN.out KBk1.out RL.out RB.out
          rw [← HAf.out] at S0
          have S1 := hid S0
          clear S0
          go_wp2_with fail
          refine S1.out.mono ?_
          rintro e wpf ⟨rfl, bp⟩
          clear S1
          replace TT := hid (TT.out.below bp)
          replace RB := hid (RB.out.below bp)
          replace QB := hid (QB.out.below bp)
          replace BB := hid (below_then BB.out bp)
          clear bp
          have S0 := rcheck_acc (digest := d) (key := k1) (row := row) (there := ok) QL.out QB.out QN.out KBk1.out RL.out RB.out
          rw [← HAf.out] at S0
          have S1 := hid S0
          clear S0
          go_wp2_with fail
          refine S1.out.mono ?_
          rintro e wrf ⟨rfl, bp⟩
          clear S1
          replace TT := hid (TT.out.below bp)
          replace RB := hid (RB.out.below bp)
          replace QB := hid (QB.out.below bp)
          replace BB := hid (below_then BB.out bp)
          clear bp
          have HC1 := hid (vsteps_any (key := k1) TT.out QL.out QB.out QN.out KBk1.out)
          go_wp2_with fail
          refine HC1.out.mono ?_
          rintro e w19 ⟨rfl, b19⟩
          clear HC1
          replace TT := hid (TT.out.below b19)
          replace RB := hid (RB.out.below b19)
          replace QB := hid (QB.out.below b19)
          replace BB := hid (below_then BB.out b19)
          clear b19
          go_wp2
          go_ret
          exact ⟨rfl, BB.out⟩
  · have hd : decide (SmallL l) = false := by simp [hsm]
    have HD := hid hd
    clear hsm hd
    go_enter Tryd.func7, Tryd.ntmps7
    have HC1 := hid (vlink_any TT.out)
    go_wp2_with fail
    refine HC1.out.mono ?_
    rintro e w1 ⟨rfl, b1⟩
    clear HC1
    replace TT := hid (TT.out.below b1)
    replace AA := hid (AA.out.below b1)
    replace BB := hid (below_then BB.out b1)
    clear b1
    have S0 := small_any HN.out AA.out HC.out.1 HC.out.2
    rw [HD.out] at S0
    have S1 := hid S0
    clear S0
    go_wp2_with fail
    refine S1.out.mono ?_
    rintro e w2 ⟨rfl, rfl⟩
    clear S1
    have HC2 := hid (vlink_any TT.out)
    go_wp2_with fail
    refine HC2.out.mono ?_
    rintro e w3 ⟨rfl, b3⟩
    clear HC2
    replace TT := hid (TT.out.below b3)
    replace AA := hid (AA.out.below b3)
    replace BB := hid (below_then BB.out b3)
    clear b3
    go_wp2
    go_ret
    exact ⟨rfl, BB.out⟩
end Go.Proofs.YtcfjciencggflaaDoor
