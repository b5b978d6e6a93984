import Derived.Test.YtcfjciencggflaaDoorV1
import Derived.Test.YtcfjciencggflaaDoorPrfC
set_option linter.unusedVariables false
set_option linter.unusedSimpArgs false
/- The walk of the reference's Steps. -/
namespace Go.Proofs.YtcfjciencggflaaDoor
open Go.RowKit PrintLast

theorem stepsP_short {key : ByteArray} {p : List UInt8} (h : p.length < 64) : stepsP key p = none := by unfold stepsP readV; rw [if_pos h]; rfl
theorem stepsP_err {key : ByteArray} {p : List UInt8} (h : ¬ p.length < 64) (he : (resB (p.drop 64)).1 ≠ 0) : stepsP key p = none := by
  have h1 := (readV_res h).1
  rw [decide_eq_false he] at h1
  unfold stepsP
  cases hr : readV p with
  | none => rfl
  | some x => rw [hr] at h1; cases h1
theorem stepsP_ok {key : ByteArray} {p : List UInt8} (h : ¬ p.length < 64) (he : (resB (p.drop 64)).1 = 0) : stepsP key p = some (stepsB key (strB (p.take 32)) (strB ((p.drop 32).take 32)) (resB (p.drop 64)).2) ∧ Fits (resB (p.drop 64)).2 := by
  have h1 := readV_res h
  rw [decide_eq_true he] at h1
  cases hr : readV p with
  | none => rw [hr] at h1; cases h1.1
  | some x =>
    have hx := h1.2 x hr
    have hf := (readV_fits hr).1
    unfold stepsP
    rw [hr, hx] at *
    exact ⟨rfl, hf⟩
theorem wayS_ne (path d : List UInt8) (i : Nat) (l : List ByteArray) : wayS path d i l ≠ [] := by
  obtain ⟨r, h⟩ := wayS_top path d i l
  rw [h]
  simp
/-- The head of a list. -/
theorem head_text {ps : List Part} {h : List UInt8} {r : List (List UInt8)} (e : txs ps = h :: r) (hl : 0 < ps.length) : (ps[0]).2.2 = h := by
  cases ps with
  | nil => simp at hl
  | cons a l =>
    simp [txs] at e
    exact e.1
/-- A literal of one, with a list behind it. -/
theorem LB.before {w : World} {B : Nat} {R : Option Addr} {c : Nat} {ps : List Part} {g : Nat} (h : LB w B R c ps) (hg : w.heap.size ≤ g) : ∀ q ∈ ps, FarB (some ⟨g, 0, none⟩) q := fun q hq => far_old (A' := q.1) (c' := q.2.1) (l := q.2.2) (h.2 q hq).1 hg

/-- What the reference's Steps reads. -/
def RefB (w wx : World) (S6 : Nat) (A4 : Option Addr) (N c4 : Nat) (kd : Int) (ky : ByteArray) (B4 : Option Addr) (m d4 : Nat) (Y : Prf) (A : Option Addr) (c : Nat) (p : List UInt8) : Prop :=
  wx.heap[S6]? = some (.cells #[.slice A4 N c4, .int .u8 kd, .string ky, .slice B4 m d4] 36 (0, 0)) ∧ TxtAt wx A4 Y.side ∧ BSA wx B4 d4 Y.row ∧ BSA wx A c p ∧ Below w.heap.size w wx
theorem RefB.below {w wx wy : World} {S6 : Nat} {A4 : Option Addr} {N c4 : Nat} {kd : Int} {ky : ByteArray} {B4 : Option Addr} {m d4 : Nat} {Y : Prf} {A : Option Addr} {c : Nat} {p : List UInt8} (h : RefB w wx S6 A4 N c4 kd ky B4 m d4 Y A c p) (hb : Below wx.heap.size wx wy) : RefB w wy S6 A4 N c4 kd ky B4 m d4 Y A c p :=
  ⟨below_heap hb h.1, h.2.1.below hb, h.2.2.1.below hb, h.2.2.2.1.below hb, below_then h.2.2.2.2 hb⟩

set_option maxRecDepth 100000 in
set_option maxHeartbeats 12800000 in
theorem rsteps_any {w : World} {A : Option Addr} {c n : Nat} {p : List UInt8} {key : ByteArray} (hn : p.length = n) (hp : BSA w A c p) (hb : n ≤ 1000000) (hk : key.size ≤ 60000) :
    Calls Tryd.prog 10 #[.string key, .slice A n c] w (GaveL w (stepsP key p)) := by
  by_cases h64 : n < 64
  · have t1 : decide ((n : Int) < 64) = true := by simp; omega
    have E := hid (stepsP_short (key := key) (p := p) (by omega))
    clear hp hn
    go_enter Tryd.func10, Tryd.ntmps10
    go_wp2
    go_ret2
    exact ⟨none, 0, 0, false, [], rfl, hid ⟨rfl, by rw [E.out]; rfl, by rw [E.out]; rfl⟩, LB.nil _ _, Below.refl _ _⟩
  · have t1 : decide ((n : Int) < 64) = false := by simp; omega
    obtain ⟨A1, c1, cr1, cb1, cl1⟩ := cut_from (kk := 64) (k := 64) rfl hn hp (by omega) (by omega)
    obtain ⟨cr2, cl2⟩ := cut_head (kk := 32) (k := 32) rfl hn hp (by omega)
    obtain ⟨A3, c3, cr3, cb3, cl3⟩ := cut_mid (kk := 32) (hh := 64) (k := 32) (h := 64) rfl rfl hn hp (by omega) (by omega) (by omega)
    obtain ⟨M0, hM⟩ : ∃ M0, M0 = n - 64 := ⟨_, rfl⟩
    rw [← hM] at cr1 cl1
    have HD := hid (rdec_any cl1 (cb1 _ hp) (by omega))
    have PP := hid hp
    have NP := hid (show ¬ p.length < 64 by omega)
    have C3 := hid cb3
    have CL := hid (And.intro cl2 cl3)
    have ks : key.size ≤ maxLen := by unfold maxLen; omega
    have hkb : key.size ≤ 1000000 := by omega
    clear hn hp hM h64 cb1 cb3 cl1 cl2 cl3
    go_enter Tryd.func10, Tryd.ntmps10
    go_wp2_with fail
    refine HD.out.mono ?_
    rintro e w1 ⟨A4, c4, B4, d4, rfl, x4, r4, b1⟩
    obtain ⟨Y, hY⟩ : ∃ Y, Y = (resB (p.drop 64)).2 := ⟨_, rfl⟩
    obtain ⟨E, hE⟩ : ∃ E, E = (resB (p.drop 64)).1 := ⟨_, rfl⟩
    rw [← hY] at x4 r4
    rw [← hY, ← hE]
    unfold prfV
    replace PP := hid (PP.out.below b1)
    by_cases h0 : E = 0
    · obtain ⟨EO, FY⟩ := stepsP_ok (key := key) NP.out (by rw [← hE]; exact h0)
      rw [← hY] at EO FY
      have E0 := hid EO
      have HF := hid FY
      obtain ⟨N, hN⟩ : ∃ N, N = Y.side.length := ⟨_, rfl⟩
      obtain ⟨m, hm⟩ : ∃ m, m = Y.row.length := ⟨_, rfl⟩
      obtain ⟨kd, hkd⟩ : ∃ kd : Int, kd = (Y.kind.toNat : Int) := ⟨_, rfl⟩
      obtain ⟨ky, hky⟩ : ∃ ky, ky = Y.key := ⟨_, rfl⟩
      rw [← hN, ← hm, ← hkd, ← hky]
      have HN := hid (And.intro hN (show N ≤ 256 by rw [hN]; exact FY.2.1))
      have HM := hid (And.intro hm (show m ≤ 4000 by rw [hm]; exact FY.2.2.2.2.1))
      have HKD := hid hkd
      have HKY := hid (And.intro hky (show ky.size ≤ 1000000 by rw [hky]; have := FY.2.2.2.1; omega))
      subst h0
      obtain ⟨S6, hS6⟩ : ∃ S6, S6 = w1.heap.size := ⟨_, rfl⟩
      have g6 := heap_alloc_new w1 (.cells #[.slice A4 N c4, .int .u8 kd, .string ky, .slice B4 m d4] 36)
      have al := below_alloc (Below.refl _ w1) (.cells #[.slice A4 N c4, .int .u8 kd, .string ky, .slice B4 m d4] 36)
      have b6 : w.heap.size ≤ S6 := by rw [hS6]; exact b1.size
      have BB := hid (below_then b1 al)
      rw [← hS6] at g6
      have RB : Hid (RefB w _ S6 A4 N c4 kd ky B4 m d4 Y A c p) := hid ⟨g6, x4.at_.below al, r4.bsa.below al, PP.out.below al, BB.out⟩
      have HS6 := hid hS6
      clear hN hm hkd hky hY hE EO FY x4 r4 b1 al g6 hS6 HD
      go_upto_region 4 with fail
      rw [← HS6.out]
      generalize w1.alloc (.cells #[.slice A4 N c4, .int .u8 kd, .string ky, .slice B4 m d4] 36) = w2 at *
      go_upto_region 7 with fail
      have r0 := (lits_row w2 (Nat.zero_le _) [0] (by decide)).bsa
      obtain ⟨S7, hS7⟩ : ∃ S7, S7 = w2.heap.size := ⟨_, rfl⟩
      have al2 := below_alloc (Below.refl _ w2) (.cells #[.int .u8 0] 5)
      replace RB := hid (RB.out.below al2)
      have r0' : BSA (w2.alloc (.cells #[.int .u8 0] 5)) (some ⟨S7, 0, none⟩) 1 [0] := by rw [hS7]; exact r0
      rw [← hS7]
      clear BB PP r0 al2 hS7
      generalize w2.alloc (.cells #[.int .u8 0] 5) = w3 at *
      have R0 := hid r0'
      clear r0'
      obtain ⟨v0, v1, v2, v3, -, -, -, -⟩ := four RB.out.1
      go_upto_if 28 with fail
      go_cut [8] (fun v wx => ∃ (A5 : Option Addr) (N5 c5 : Nat) (D1 : List UInt8), v = .slice A5 N5 c5 ∧ Hid (N5 = D1.length ∧ D1 = (if Y.kind = 1 then leafB key.data.toList Y.row else [0])) ∧ Hid (BSA wx A5 c5 D1) ∧ Hid (RefB w wx S6 A4 N c4 kd ky B4 m d4 Y A c p))
      case first =>
        by_cases h1 : Y.kind = 1
        · have t1 : (kd == 1) = true := by rw [HKD.out, h1]; rfl
          have HL := hid (rleafBytes_any (a := key) (r := Y.row) hkb (by rw [← HM.out.1]; have := HM.out.2; omega) RB.out.2.2.1)
          rw [← HM.out.1] at HL
          have HE := hid (show leafB key.data.toList Y.row = (if Y.kind = 1 then leafB key.data.toList Y.row else [0]) by rw [if_pos h1])
          clear h1
          go_wp2_with fail
          refine HL.out.mono ?_
          rintro e w4 ⟨A5, c5, rfl, r5, b5⟩
          have RB5 := hid (RB.out.below b5)
          go_wp2
          go_meet
          exact ⟨A5, _, c5, _, rfl, hid ⟨rfl, HE.out⟩, hid r5.bsa, RB5⟩
        · have t1 : (kd == 1) = false := by rw [HKD.out]; exact kind_bne h1
          have HE := hid (show [0] = (if Y.kind = 1 then leafB key.data.toList Y.row else [0]) by rw [if_neg h1])
          clear h1
          go_wp2
          go_meet
          exact ⟨_, _, _, [0], rfl, hid ⟨rfl, HE.out⟩, R0, RB⟩
      obtain ⟨A5, N5, c5, D1, rfl, HD1, R5, RB5⟩ := hcut
      clear v0 v1 v2 v3 R0 RB
      generalize wc = w5 at *
      obtain ⟨v0, v1, v2, v3, -, -, -, -⟩ := four RB5.out.1
      go_upto_if 35 with fail
      go_cut [8] (fun v wx => ∃ (A6 : Option Addr) (N6 c6 : Nat) (D : List UInt8), v = .slice A6 N6 c6 ∧ Hid (N6 = D.length ∧ D = endD key Y) ∧ Hid (BSA wx A6 c6 D) ∧ Hid (RefB w wx S6 A4 N c4 kd ky B4 m d4 Y A c p))
      case first =>
        by_cases h2 : Y.kind = 2
        · have t1 : (kd == 2) = true := by rw [HKD.out, h2]; rfl
          have HL := hid (rleafBytes_any (a := ky) (r := Y.row) HKY.out.2 (by rw [← HM.out.1]; have := HM.out.2; omega) RB5.out.2.2.1)
          rw [← HM.out.1] at HL
          have HE := hid (show leafB ky.data.toList Y.row = endD key Y by unfold endD; rw [if_neg (by rw [h2]; decide), if_pos h2, HKY.out.1])
          clear h2
          go_wp2_with fail
          refine HL.out.mono ?_
          rintro e w6 ⟨A6, c6, rfl, r6, b6'⟩
          have RB6 := hid (RB5.out.below b6')
          go_wp2
          go_meet
          exact ⟨A6, _, c6, _, rfl, hid ⟨rfl, HE.out⟩, hid r6.bsa, RB6⟩
        · have t1 : (kd == 2) = false := by rw [HKD.out]; exact kind_bne h2
          have HE := hid (show D1 = endD key Y by rw [HD1.out.2]; unfold endD; rw [if_neg h2])
          clear h2
          go_wp2
          go_meet
          exact ⟨_, _, _, D1, rfl, hid ⟨HD1.out.1, HE.out⟩, R5, RB5⟩
      obtain ⟨A6, N6, c6, D, rfl, HD, R6, RB6⟩ := hcut
      clear v0 v1 v2 v3 R5 RB5 HD1
      generalize wc = w6 at *
      go_upto_region 12 with fail
      obtain ⟨g7, hg7⟩ : ∃ g7, g7 = w6.heap.size := ⟨_, rfl⟩
      have sg7 : w.heap.size ≤ w6.heap.size := RB6.out.2.2.2.2.size
      have al7 := below_alloc (Below.refl _ w6) (.cells #[.slice A6 N6 c6] 22)
      have L7 : LB (w6.alloc (.cells #[.slice A6 N6 c6] 22)) w.heap.size (some ⟨g7, 0, none⟩) 1 [(A6, c6, D)] := by
        have h := (LB.lit_n (c := c6) HD.out.1 R6.out).lower sg7
        rw [← hg7] at h
        exact h
      replace RB6 := hid (RB6.out.below al7)
      rw [← hg7]
      clear R6 al7 hg7 sg7
      generalize w6.alloc (.cells #[.slice A6 N6 c6] 22) = w7 at *
      have L8 := hid L7
      clear L7
      go_wp2_with (refine wpList_conv rfl (.tmp 43) rfl key rfl ks ?_)
      intro g8 c8 w8 _ q8 b8
      replace RB6 := hid (RB6.out.below b8)
      replace L8 := hid (L8.out.below b8)
      have HC8 := hid (rsum_dig (bsz key) q8 (by rw [bsz]; omega))
      clear q8 b8
      go_wp2_with fail
      refine HC8.out.mono ?_
      rintro e w9 ⟨rfl, b9⟩
      replace RB6 := hid (RB6.out.below b9)
      replace L8 := hid (L8.out.below b9)
      obtain ⟨K, hK⟩ : ∃ K, K = dig key.data.toList := ⟨_, rfl⟩
      rw [← hK]
      have HK := hid hK
      obtain ⟨v0, v1, v2, v3, -, -, -, -⟩ := four RB6.out.1
      have DL := hid (show D.length ≤ 2000000 by
        rw [HD.out.2]
        unfold endD
        have q1 := HF.out.2.2.2.1
        have q2 := HF.out.2.2.2.2.1
        split
        · rw [leafB_length]; simp; omega
        · split
          · rw [leafB_length]; simp; omega
          · simp)
      have hN256 : N ≤ 256 := HN.out.2
      clear HC8 b9 hK
      go_wp2
      go_loopw [9, 11] (fun o i wr => ∃ (k c' M : Nat) (R : Option Addr) (ps : List Part), k ≤ N ∧ i = .int .i64 ((N : Int) - 1 - k) ∧ o = .slice R (M + 1) c' ∧ Hid (LB wr w.heap.size R c' ps ∧ ps.length = M + 1 ∧ M = k ∧ txs ps = wayS (pathK key) D (N - k) (Y.side.drop (N - k)) ∧ ∀ t ∈ txs ps, t.length ≤ 2000000) ∧ Hid (RefB w wr S6 A4 N c4 kd ky B4 m d4 Y A c p)) (fun _ i _ => (intOf i + 1).toNat)
      case atStart => exact ⟨0, 1, 0, some ⟨g7, 0, none⟩, [(A6, c6, D)], Nat.zero_le _, by simp, rfl, hid ⟨L8.out, rfl, rfl, by rw [Nat.sub_zero, HN.out.1, List.drop_length]; rfl, fun t ht => by
        have e : t = D := by simpa [txs] using ht
        rw [e]
        exact DL.out⟩, RB6⟩
      case round =>
        clear L8 RB6 v0 v1 v2 v3
        obtain ⟨k, c', M, R, ps, hk, rfl, rfl, hL, hR⟩ := hrel
        by_cases hlt : k < N
        · obtain ⟨LLo, u1, u2, u3, u4⟩ := hL.out
          obtain ⟨j, hj⟩ : ∃ j : Nat, (N : Int) - 1 - k = (j : Int) := ⟨N - 1 - k, by omega⟩
          have hjY : j < Y.side.length := by rw [← HN.out.1]; omega
          obtain ⟨s, hs⟩ : ∃ s, s = Y.side[j] := ⟨_, rfl⟩
          have hss : s.size = 32 := by rw [hs]; exact HF.out.1 _ (List.getElem_mem hjY)
          obtain ⟨rst, hup⟩ := wayS_top (pathK key) D (N - k) (Y.side.drop (N - k))
          obtain ⟨top, htop⟩ : ∃ top, top = topS (pathK key) D (N - k) (Y.side.drop (N - k)) := ⟨_, rfl⟩
          rw [← htop] at hup
          obtain ⟨g, rfl⟩ := LLo.place (by rw [u1]; exact Nat.succ_pos _)
          have h0 : 0 < ps.length := by rw [u1]; exact Nat.succ_pos _
          have c0 := LLo.cell 0 h0
          have e0 := LLo.elem 0 h0
          have t0 : (ps[0]).2.2 = top := head_text (u3.trans hup) h0
          have tl : top.length ≤ 2000000 := u4 top (by rw [u3, hup]; simp)
          obtain ⟨a1, m1, d1, hv1, hm1⟩ : ∃ a m c, partV ps[0] = .slice a m c ∧ (ps[0]).2.2.length = m := ⟨_, _, _, rfl, rfl⟩
          have ev : (ps[0]).1 = a1 ∧ (ps[0]).2.1 = d1 := ⟨(Value.slice.inj hv1).1, (Value.slice.inj hv1).2.2⟩
          rw [t0, ev.1, ev.2] at e0
          rw [t0] at hm1
          rw [hv1] at c0
          have HS := hid (rsum_dig (w := wr) hm1 e0 (by omega))
          obtain ⟨T, hT⟩ : ∃ T, T = stepU (pathK key) j s top := ⟨_, rfl⟩
          have NX := hid (show wayS (pathK key) D (N - (k + 1)) (Y.side.drop (N - (k + 1))) = T :: txs ps by
            have q1 : N - (k + 1) = j := by omega
            have q2 : N - k = j + 1 := by omega
            rw [q1, List.drop_eq_getElem_cons hjY, wayS_cons, ← hs, u3, q2, hT, htop, q2])
          have TL := hid (show T.length ≤ 2000000 by rw [hT, stepU_length _ _ _ _ hss]; omega)
          obtain ⟨dt, hdt⟩ : ∃ dt, dt = dig top := ⟨_, rfl⟩
          rw [← hdt] at HS
          have HDT := hid hdt
          have HTT := hid hT
          obtain ⟨gq, oq, rfl, hcj⟩ := hR.out.2.1.at_ j hjY
          rw [← hs] at hcj
          have HCJ := hid hcj
          have LL := hid LLo
          have HU := hid (And.intro u1 (And.intro u2 u4))
          have h47 := hid (show 1 + (M + 1) ≤ 1000000000 by omega)
          have sWr : w.heap.size ≤ wr.heap.size := hR.out.2.2.2.2.size
          have hj2 : (N : Int) - 1 - ((k + 1 : Nat) : Int) = (j : Int) - 1 := by omega
          have HJ2 := hid (And.intro hj2 (show k + 1 ≤ N by omega))
          have HJ3 := hid (show j ≤ 1000 by omega)
          have i1 : (0 : Int) < (M : Int) + 1 := by omega
          have i2 : (j : Int) < (N : Int) := by omega
          have hj0 : (0 : Int) ≤ (j : Int) := Int.natCast_nonneg j
          have t1 : decide ((0 : Int) ≤ (j : Int)) = true := decide_eq_true hj0
          have HSS := hid hss
          rw [hj]
          clear LLo u1 u2 u3 u4 hup htop e0 t0 tl hv1 hm1 ev hT hdt hcj hs hss hL h0 hj hj2 hlt hk hjY
          go_wp2_with fail
          refine HS.out.mono ?_
          rintro e wa ⟨rfl, ba⟩
          have Ba := hid ba
          have ra := hR.out.below ba
          obtain ⟨v0, v1, v2, v3, -, -, -, -⟩ := four ra.1
          have cj := below_cell ba HCJ.out
          have HN1 : Hid (Calls Tryd.prog 26 #[.string dt, .string s] wa (GaveB wa (nodeB dt.data.toList s.data.toList))) := hid (rnodeBytes_any (w := wa) (a := dt) (b := s) (by rw [HDT.out, dig_size]; decide) (by rw [HSS.out]; decide))
          clear ba ra HS c0
          go_wp2_with fail
          refine HN1.out.mono ?_
          rintro e wb ⟨Aq, cq, rfl, rq, bb⟩
          obtain ⟨bi, hbi⟩ : ∃ bi, bi = bitOf K.data.toList (j : Int) := ⟨_, rfl⟩
          have HBI := hid hbi
          have HB0 := rbit_any (w := wb) (s := K) (i := (j : Int)) (by rw [HK.out, dig_list, sum256_length]; decide) (by have := HJ3.out; omega)
          rw [← hbi] at HB0
          have HB := hid HB0
          have Bwb := hid (below_then Ba.out bb)
          have RQ := hid rq
          clear v0 v1 v2 v3 cj HN1 rq bb hbi HB0 Ba
          go_wp2_with fail
          refine HB.out.mono ?_
          rintro e wb2 ⟨rfl, rfl⟩
          clear HB
          by_cases hb1 : bi = 1
          · have t2 : (bi == 1) = true := by rw [hb1]; rfl
            have ra := hR.out.below Bwb.out
            obtain ⟨v0, v1, v2, v3, -, -, -, -⟩ := four ra.1
            have cj := below_cell Bwb.out HCJ.out
            have ET : nodeB s.data.toList dt.data.toList = T := by
              rw [HTT.out]
              unfold stepU
              rw [if_pos (by rw [← hb1, HBI.out, HK.out, dig_list]; rfl), HDT.out, dig_list]
            have HN2 := rnodeBytes_any (w := wb) (a := s) (b := dt) (by rw [HSS.out]; decide) (by rw [HDT.out, dig_size]; decide)
            rw [ET] at HN2
            have HN3 := hid HN2
            clear ra hb1 ET HN2 RQ
            go_wp2_with fail
            refine HN3.out.mono ?_
            rintro e wd ⟨Aq, cq, rfl, rq, bd⟩
            obtain ⟨Nq, hNq⟩ : ∃ Nq, Nq = T.length := ⟨_, rfl⟩
            rw [← hNq]
            have HQ := hid (And.intro rq hNq)
            have Bwd := hid (below_then Bwb.out bd)
            clear v0 v1 v2 v3 cj HN3 rq bd hNq Bwb
            have sq := Nat.le_trans sWr (show wr.heap.size ≤ wd.heap.size from Bwd.out.size)
            have al20 := below_alloc (Below.refl _ wd) (.cells #[.slice Aq Nq cq] 22)
            have LIT := (LB.lit_n HQ.out.2 HQ.out.1).lower sq
            have FR := (LL.out.below Bwd.out).before (Nat.le_refl _)
            have LLq := (LL.out.below Bwd.out).below al20
            go_wp2_with (refine wpList_appL rfl (.tmp 77) (.tmp 78) rfl w.heap.size (Nat.le_trans sq al20.size) (some ⟨wd.heap.size, 0, none⟩) 1 1 [(Aq, cq, T)] rfl rfl LIT (some ⟨g, 0, none⟩) (M + 1) c' w.heap.size ps rfl HU.out.1 LLq FR h47.out (M + 1 + 1) (Nat.add_comm 1 (M + 1)) ?_)
            intro R2 c2 wz Lz _ Gz
            have bz : Below wd.heap.size wd wz := al20.grown Gz al20.size (fun k e => by simp [Value.ownBlock] at e; omega)
            have RBz := hid ((hR.out.below Bwd.out).below bz)
            have HLz : Hid (LB wz w.heap.size R2 c2 ([(Aq, cq, T)] ++ ps) ∧ ([(Aq, cq, T)] ++ ps).length = M + 1 + 1 ∧ M + 1 = k + 1 ∧ txs ([(Aq, cq, T)] ++ ps) = wayS (pathK key) D (N - (k + 1)) (Y.side.drop (N - (k + 1))) ∧ ∀ t ∈ txs ([(Aq, cq, T)] ++ ps), t.length ≤ 2000000) := hid ⟨Lz, by rw [List.length_append, HU.out.1]; exact Nat.add_comm 1 (M + 1), by rw [HU.out.2.1], by rw [txs_append, NX.out]; rfl, fun t ht => by
              rw [txs_append] at ht
              rcases List.mem_append.1 ht with ht | ht
              · have e : t = T := by simpa [txs] using ht
                rw [e]
                exact TL.out
              · exact HU.out.2.2 t ht⟩
            clear Lz Gz bz LLq FR LIT al20 sq
            go_wp2
            go_roundw
            case rel => exact ⟨k + 1, c2, M + 1, R2, _, HJ2.out.2, by rw [HJ2.out.1]; try rw [wrap64_is _ (by have := HJ3.out; omega)], rfl, HLz, RBz⟩
            case measure => have := HJ3.out; simp [intOf]; try omega
          · have t2 : (bi == 1) = false := by rw [beq_eq_false_iff_ne]; exact hb1
            have ET : nodeB dt.data.toList s.data.toList = T := by
              rw [HTT.out]
              unfold stepU
              rw [if_neg (fun h => hb1 (by rw [HBI.out, HK.out, dig_list]; exact h)), HDT.out, dig_list]
            have RQ2 := RQ.out
            rw [ET] at RQ2 ⊢
            obtain ⟨Nq, hNq⟩ : ∃ Nq, Nq = T.length := ⟨_, rfl⟩
            rw [← hNq]
            have HQ := hid (And.intro RQ2 hNq)
            clear RQ RQ2 hb1 ET hNq
            have sq := Nat.le_trans sWr (show wr.heap.size ≤ wb.heap.size from Bwb.out.size)
            have al20 := below_alloc (Below.refl _ wb) (.cells #[.slice Aq Nq cq] 22)
            have LIT := (LB.lit_n HQ.out.2 HQ.out.1).lower sq
            have FR := (LL.out.below Bwb.out).before (Nat.le_refl _)
            have LLq := (LL.out.below Bwb.out).below al20
            go_wp2_with (refine wpList_appL rfl (.tmp 77) (.tmp 78) rfl w.heap.size (Nat.le_trans sq al20.size) (some ⟨wb.heap.size, 0, none⟩) 1 1 [(Aq, cq, T)] rfl rfl LIT (some ⟨g, 0, none⟩) (M + 1) c' w.heap.size ps rfl HU.out.1 LLq FR h47.out (M + 1 + 1) (Nat.add_comm 1 (M + 1)) ?_)
            intro R2 c2 wz Lz _ Gz
            have bz : Below wb.heap.size wb wz := al20.grown Gz al20.size (fun k e => by simp [Value.ownBlock] at e; omega)
            have RBz := hid ((hR.out.below Bwb.out).below bz)
            have HLz : Hid (LB wz w.heap.size R2 c2 ([(Aq, cq, T)] ++ ps) ∧ ([(Aq, cq, T)] ++ ps).length = M + 1 + 1 ∧ M + 1 = k + 1 ∧ txs ([(Aq, cq, T)] ++ ps) = wayS (pathK key) D (N - (k + 1)) (Y.side.drop (N - (k + 1))) ∧ ∀ t ∈ txs ([(Aq, cq, T)] ++ ps), t.length ≤ 2000000) := hid ⟨Lz, by rw [List.length_append, HU.out.1]; exact Nat.add_comm 1 (M + 1), by rw [HU.out.2.1], by rw [txs_append, NX.out]; rfl, fun t ht => by
              rw [txs_append] at ht
              rcases List.mem_append.1 ht with ht | ht
              · have e : t = T := by simpa [txs] using ht
                rw [e]
                exact TL.out
              · exact HU.out.2.2 t ht⟩
            clear Lz Gz bz LLq FR LIT al20 sq
            go_wp2
            go_roundw
            case rel => exact ⟨k + 1, c2, M + 1, R2, _, HJ2.out.2, by rw [HJ2.out.1]; try rw [wrap64_is _ (by have := HJ3.out; omega)], rfl, HLz, RBz⟩
            case measure => have := HJ3.out; simp [intOf]; try omega
        · obtain rfl : k = N := by omega
          have t1 : decide ((0 : Int) ≤ (k : Int) - 1 - (k : Int)) = false := by simp; omega
          obtain ⟨LLo, u1, u2, u3, u4⟩ := hL.out
          rw [Nat.sub_self, List.drop_zero] at u3
          obtain ⟨rst, hup⟩ := wayS_top (pathK key) D 0 Y.side
          obtain ⟨top, htop⟩ : ∃ top, top = topS (pathK key) D 0 Y.side := ⟨_, rfl⟩
          rw [← htop] at hup
          obtain ⟨g, rfl⟩ := LLo.place (by rw [u1]; exact Nat.succ_pos _)
          have h0 : 0 < ps.length := by rw [u1]; exact Nat.succ_pos _
          have c0 := LLo.cell 0 h0
          have e0 := LLo.elem 0 h0
          have t0 : (ps[0]).2.2 = top := head_text (u3.trans hup) h0
          have tl : top.length ≤ 2000000 := u4 top (by rw [u3, hup]; simp)
          obtain ⟨a1, m1, d1, hv1, hm1⟩ : ∃ a m c, partV ps[0] = .slice a m c ∧ (ps[0]).2.2.length = m := ⟨_, _, _, rfl, rfl⟩
          have ev : (ps[0]).1 = a1 ∧ (ps[0]).2.1 = d1 := ⟨(Value.slice.inj hv1).1, (Value.slice.inj hv1).2.2⟩
          rw [t0, ev.1, ev.2] at e0
          rw [t0] at hm1
          rw [hv1] at c0
          obtain ⟨dt, hdt⟩ : ∃ dt, dt = dig top := ⟨_, rfl⟩
          have HS : Hid (Calls Tryd.prog 11 #[.slice a1 m1 d1] wr.drew fun e w' => e = .returned (.string dt) ∧ Below wr.drew.heap.size wr.drew w') := hid (by rw [hdt]; exact rsum_dig (w := wr.drew) hm1 (show BSA wr.drew a1 d1 top from e0) (by omega))
          have HDT := hid hdt
          obtain ⟨s1, hs1⟩ : ∃ s1, s1 = strB (p.take 32) := ⟨_, rfl⟩
          obtain ⟨s2, hs2⟩ : ∃ s2, s2 = strB ((p.drop 32).take 32) := ⟨_, rfl⟩
          have s1s : s1.size = 32 := by rw [hs1, strB_size]; exact CL.out.1
          have s2s : s2.size = 32 := by rw [hs2, strB_size]; exact CL.out.2
          obtain ⟨T, hT⟩ : ∃ T, T = linkB s1.data.toList (sum256 top) s2.data.toList := ⟨_, rfl⟩
          obtain ⟨N8, hN8⟩ : ∃ N8, N8 = T.length := ⟨_, rfl⟩
          have HLB : Hid (∀ w : World, Calls Tryd.prog 27 #[.string s1, .string dt, .string s2] w fun e w' => ∃ A' c', e = .returned (.slice A' N8 c') ∧ BSA w' A' c' T ∧ Below w.heap.size w w') := hid (fun w => by
            have h := rlinkBytes_any (w := w) (a := s1) (b := dt) (d := s2) (by rw [s1s]; decide) (by rw [HDT.out, dig_size]; decide) (by rw [s2s]; decide)
            rw [HDT.out, dig_list, ← hT] at h
            rw [hN8, HDT.out]
            exact h)
          have CV : Hid (∀ w' : World, BSA w' A c p → (convert 22 9 (.slice A 32 c)).run Tryd.prog w' = .ok (.string s1) w' ∧ (convert 22 9 (.slice A3 32 c3)).run Tryd.prog w' = .ok (.string s2) w') := hid (fun w' hb' => ⟨by rw [hs1]; exact conv_any (n := 32) CL.out.1 (hb'.head 32), by rw [hs2]; exact conv_any (n := 32) CL.out.2 (C3.out w' hb')⟩)
          have cr3' : ∀ w' : World, (Instr.slice 22 (.slice A n c) (some (.int .i64 32)) (some (.int .i64 64)) none).run Tryd.prog w' = .ok (.slice A3 32 c3) w' := cr3
          have PW : BSA wr.drew A c p := hR.out.2.2.2.1
          have HW := hid (And.intro (show LB wr.drew w.heap.size (some ⟨g, 0, none⟩) c' ps from LLo) (And.intro (show Below w.heap.size w wr.drew from hR.out.2.2.2.2.drew) PW))
          have cvs := CV.out wr.drew PW
          have cv2 := cvs.1
          have cv3 := cvs.2
          have HU := hid (And.intro u1 (And.intro u3 (And.intro htop (And.intro hT (And.intro hN8 (And.intro hs1 hs2))))))
          have h47 := hid (show 1 + (M + 1) ≤ 1000000000 by omega)
          have i1 : (0 : Int) < (M : Int) + 1 := by omega
          have i2 := eq_true i1
          clear cr3 LLo u1 u2 u3 u4 hup htop e0 t0 tl hv1 hm1 ev hT hN8 hdt hL hR hs1 hs2 cvs PW h0 s1s s2s
          go_wp2
          refine start_ (n := 16) (S := fun w' => (convert 22 9 (.slice A 32 c)).run Tryd.prog w' = .ok (.string s1) w' ∧ (convert 22 9 (.slice A3 32 c3)).run Tryd.prog w' = .ok (.string s2) w' ∧ w'.cell? ⟨g, 0, none⟩ = some (.slice a1 m1 d1)) (ds := [13]) #[false, false, false, false, false, false, false, false, false, false, false, false, false, false, false, false] (by kernel_rfl) rfl rfl ⟨cv2, cv3, c0⟩ (fun hHeld => ?_)
          refine pure_ (i := 0) (N := some 80) (v := ?_) (a' := ?_) #[true, false, false, false, false, false, false, false, false, false, false, false, false, false, false, false] rfl rfl (by kernel_rfl) (fun _ _ _ h => h) (Or.inl ⟨by rfl, ?_⟩) ?_ ?_
          rotate_left
          · intro w'
            go_simp
            with_reducible rfl
          rotate_left
          · simp only [Act.put, List.setIfInBounds_toArray, List.set_cons_zero, List.set_cons_succ, i64_w, i32_w]
            rfl
          refine pure_ (i := 1) (N := some 81) (v := ?_) (a' := ?_) #[true, true, false, false, false, false, false, false, false, false, false, false, false, false, false, false] rfl rfl (by kernel_rfl) (fun _ _ _ h => h) (Or.inl ⟨by rfl, ?_⟩) ?_ ?_
          rotate_left
          · intro w'
            go_simp
            with_reducible rfl
          rotate_left
          · simp only [Act.put, List.setIfInBounds_toArray, List.set_cons_zero, List.set_cons_succ, i64_w, i32_w]
            rfl
          refine pure_ (i := 3) (N := some 83) (v := ?_) (a' := ?_) #[true, true, false, true, false, false, false, false, false, false, false, false, false, false, false, false] rfl rfl (by kernel_rfl) (fun _ _ _ h => h) (Or.inl ⟨by rfl, ?_⟩) ?_ ?_
          rotate_left
          · intro w'
            go_simp
            with_reducible rfl
          rotate_left
          · simp only [Act.put, List.setIfInBounds_toArray, List.set_cons_zero, List.set_cons_succ, i64_w, i32_w]
            rfl
          refine pure_ (i := 4) (N := some 84) (v := ?_) (a' := ?_) #[true, true, false, true, true, false, false, false, false, false, false, false, false, false, false, false] rfl rfl (by kernel_rfl) (fun _ _ _ h => h) (Or.inl ⟨by rfl, ?_⟩) ?_ ?_
          rotate_left
          · intro w'
            go_simp
            with_reducible rfl
          rotate_left
          · simp only [Act.put, List.setIfInBounds_toArray, List.set_cons_zero, List.set_cons_succ, i64_w, i32_w]
            rfl
          refine pure_ (i := 7) (N := some 87) (v := ?_) (a' := ?_) #[true, true, false, true, true, false, false, true, false, false, false, false, false, false, false, false] rfl rfl (by kernel_rfl) (fun _ _ _ h => h) (Or.inl ⟨by rfl, ?_⟩) ?_ ?_
          rotate_left
          · intro w'
            go_simp
            with_reducible rfl
          rotate_left
          · simp only [Act.put, List.setIfInBounds_toArray, List.set_cons_zero, List.set_cons_succ, i64_w, i32_w]
            rfl
          refine pure_ (i := 8) (N := some 88) (v := ?_) (a' := ?_) #[true, true, false, true, true, false, false, true, true, false, false, false, false, false, false, false] rfl rfl (by kernel_rfl) (fun _ _ _ h => h) (Or.inl ⟨by rfl, ?_⟩) ?_ ?_
          rotate_left
          · intro w'
            go_simp
            with_reducible rfl
          rotate_left
          · simp only [Act.put, List.setIfInBounds_toArray, List.set_cons_zero, List.set_cons_succ, i64_w, i32_w]
            rfl
          refine pure_ (i := 12) (N := some 92) (v := ?_) (a' := ?_) #[true, true, false, true, true, false, false, true, true, false, false, false, true, false, false, false] rfl rfl (by kernel_rfl) (fun _ _ _ h => h) (Or.inl ⟨by rfl, ?_⟩) ?_ ?_
          rotate_left
          · intro w'
            go_simp
            with_reducible rfl
          rotate_left
          · simp only [Act.put, List.setIfInBounds_toArray, List.set_cons_zero, List.set_cons_succ, i64_w, i32_w]
            rfl
          refine take_ (i := 2) (N := some 82) (v := ?_) (a' := ?_) #[true, true, true, true, true, false, false, true, true, false, false, false, true, false, false, false] rfl rfl (by kernel_rfl) (fun _ _ _ h => h) (Or.inl ⟨by rfl, ?_⟩) hHeld ?_ ?_
          rotate_left
          · rintro w' ⟨s0, s1, s2⟩
            go_simp
            with_reducible rfl
          rotate_left
          · simp only [Act.put, List.setIfInBounds_toArray, List.set_cons_zero, List.set_cons_succ, i64_w, i32_w]
            rfl
          refine take_ (i := 5) (N := some 85) (v := ?_) (a' := ?_) #[true, true, true, true, true, true, false, true, true, false, false, false, true, false, false, false] rfl rfl (by kernel_rfl) (fun _ _ _ h => h) (Or.inl ⟨by rfl, ?_⟩) hHeld ?_ ?_
          rotate_left
          · rintro w' ⟨s0, s1, s2⟩
            go_simp
            with_reducible rfl
          rotate_left
          · simp only [Act.put, List.setIfInBounds_toArray, List.set_cons_zero, List.set_cons_succ, i64_w, i32_w]
            rfl
          refine take_ (i := 9) (N := some 89) (v := ?_) (a' := ?_) #[true, true, true, true, true, true, false, true, true, true, false, false, true, false, false, false] rfl rfl (by kernel_rfl) (fun _ _ _ h => h) (Or.inl ⟨by rfl, ?_⟩) hHeld ?_ ?_
          rotate_left
          · rintro w' ⟨s0, s1, s2⟩
            go_simp
            with_reducible rfl
          rotate_left
          · simp only [Act.put, List.setIfInBounds_toArray, List.set_cons_zero, List.set_cons_succ, i64_w, i32_w]
            rfl
          refine one_ (i := 6) (N := some 86) #[true, true, true, true, true, true, true, true, true, true, false, false, true, false, false, false] rfl rfl (by kernel_rfl) (by decide) (fun K hK => ?_)
          refine goes_ Tryd.func11 (by kernel_rfl) rfl #[.slice a1 m1 d1] (by rfl) rfl rfl (by simp only [List.map_toArray, List.map_cons, List.map_nil]; rfl) ?_
          with_reducible refine (HS.out).mono ?_
          rintro e' w8 ⟨rfl, b8⟩
          refine ⟨_, rfl, ?_⟩
          have PX := HW.out.2.2.below b8
          refine hK.out _ _ ⟨(CV.out _ PX).1, (CV.out _ PX).2, (below_cell b8 hHeld.2.2)⟩ (fun hHeld => ?_)
          clear hK K
          refine norm_ (a' := ?_) ?_ ?_
          rotate_left
          · show Act.put _ (some 86) _ = _
            simp only [Act.put, List.setIfInBounds_toArray, List.set_cons_zero, List.set_cons_succ, i64_w, i32_w]
            rfl
          refine one_ (i := 10) (N := some 90) #[true, true, true, true, true, true, true, true, true, true, true, false, true, false, false, false] rfl rfl (by kernel_rfl) (by decide) (fun K hK => ?_)
          refine goes_ Tryd.func27 (by kernel_rfl) rfl #[.string s1, .string dt, .string s2] (by rfl) rfl rfl (by simp only [List.map_toArray, List.map_cons, List.map_nil]; rfl) ?_
          with_reducible refine ((HLB.out _)).mono ?_
          rintro e' w9 ⟨A9, c9, rfl, r9, b9⟩
          refine ⟨_, rfl, ?_⟩
          have PY := PX.below b9
          refine hK.out _ _ ⟨(CV.out _ PY).1, (CV.out _ PY).2, (below_cell b9 hHeld.2.2)⟩ (fun hHeld => ?_)
          clear hK K
          refine norm_ (a' := ?_) ?_ ?_
          rotate_left
          · show Act.put _ (some 90) _ = _
            simp only [Act.put, List.setIfInBounds_toArray, List.set_cons_zero, List.set_cons_succ, i64_w, i32_w]
            rfl
          refine one_ (i := 11) (N := some 91) #[true, true, true, true, true, true, true, true, true, true, true, true, true, false, false, false] rfl rfl (by kernel_rfl) (by decide) (fun K hK => ?_)
          refine value_ (w1 := ?_) (v := ?_) (by rfl) rfl ?_ ?_
          rotate_left 2
          · go_simp
            constructor
            · rfl
            · rfl
          have al9 := below_alloc (Below.refl _ w9) (.cells #[.slice A9 N8 c9] 22)
          have PZ := PY.below al9
          refine hK.out _ _ ⟨(CV.out _ PZ).1, (CV.out _ PZ).2, (below_cell al9 hHeld.2.2)⟩ (fun hHeld => ?_)
          clear hK K
          refine norm_ (a' := ?_) ?_ ?_
          rotate_left
          · show Act.put _ (some 91) _ = _
            simp only [Act.put, List.setIfInBounds_toArray, List.set_cons_zero, List.set_cons_succ, i64_w, i32_w]
            rfl
          refine last_ (i := 13) (N := some 93) #[true, true, true, true, true, true, true, true, true, true, true, true, true, true, false, false] rfl rfl (by kernel_rfl) (by decide) (fun K hK => ?_)
          have FL := (HW.out.1.below b8).below b9
          have sz9 : w.heap.size ≤ w9.heap.size := Nat.le_trans HW.out.2.1.size (Nat.le_trans b8.size b9.size)
          have LIT := (LB.lit_n HU.out.2.2.2.2.1 r9).lower sz9
          have FR := FL.before (Nat.le_refl _)
          refine step_appL rfl (.tmp 91) (.tmp 92) rfl w.heap.size (Nat.le_trans sz9 al9.size) (some ⟨w9.heap.size, 0, none⟩) 1 1 [(A9, c9, T)] rfl rfl LIT (some ⟨g, 0, none⟩) (M + 1) c' w.heap.size ps rfl HU.out.1 (FL.below al9) FR h47.out (M + 1 + 1) (Nat.add_comm 1 (M + 1)) ?_
          intro R2 c2 w10 L10 B10 _
          refine hK.out _ _ ?_
          clear hK K
          refine norm_ (a' := ?_) ?_ ?_
          rotate_left
          · show Act.put _ (some 93) _ = _
            simp only [Act.put, List.setIfInBounds_toArray, List.set_cons_zero, List.set_cons_succ, i64_w, i32_w]
            rfl
          refine pure_ (i := 14) (N := some 4) (v := ?_) (a' := ?_) #[true, true, true, true, true, true, true, true, true, true, true, true, true, true, true, false] rfl rfl (by kernel_rfl) (fun _ _ _ h => h) (Or.inl ⟨by rfl, ?_⟩) ?_ ?_
          rotate_left
          · intro w'
            go_simp
            with_reducible rfl
          rotate_left
          · simp only [Act.put, List.setIfInBounds_toArray, List.set_cons_zero, List.set_cons_succ, i64_w, i32_w]
            rfl
          refine pure_ (i := 15) (N := some 5) (v := ?_) (a' := ?_) #[true, true, true, true, true, true, true, true, true, true, true, true, true, true, true, true] rfl rfl (by kernel_rfl) (fun _ _ _ h => h) (Or.inl ⟨by rfl, ?_⟩) ?_ ?_
          rotate_left
          · intro w'
            go_simp
            with_reducible rfl
          rotate_left
          · simp only [Act.put, List.setIfInBounds_toArray, List.set_cons_zero, List.set_cons_succ, i64_w, i32_w]
            rfl
          refine done_ (by kernel_rfl) ?_
          have BF := (((HW.out.2.1.trans (b8.mono HW.out.2.1.size)).trans (b9.mono (Nat.le_trans HW.out.2.1.size b8.size))).trans (al9.mono sz9)).trans B10
          have FF := hid (And.intro L10 BF)
          clear cv2 cv3 c0 i1 i2 HS HLB CV PX PY PZ al9 FL sz9 LIT FR L10 B10 BF b8 b9
          go_wp2
          go_ret2
          refine ⟨R2, M + 1 + 1, c2, true, [(A9, c9, T)] ++ ps, rfl, hid ⟨by rw [List.length_append, HU.out.1]; exact Nat.add_comm 1 (M + 1), by rw [E0.out]; rfl, ?_⟩, FF.out.1, FF.out.2⟩
          obtain ⟨-, u3, htop, hT, -, hs1, hs2⟩ := HU.out
          rw [E0.out, txs_append, u3]
          unfold stepsB
          rw [← HD.out.2, ← htop, ← hs1, ← hs2, ← hT]
          rfl
    · have t2 : ((E : Int) == 0) = false := by rw [beq_eq_false_iff_ne]; omega
      have t3 : (!((E : Int) == 0)) = true := by rw [t2]; rfl
      have E0 := hid (stepsP_err (key := key) NP.out (by rw [← hE]; exact h0))
      obtain ⟨N, hN⟩ : ∃ N, N = Y.side.length := ⟨_, rfl⟩
      obtain ⟨m, hm⟩ : ∃ m, m = Y.row.length := ⟨_, rfl⟩
      obtain ⟨kd, hkd⟩ : ∃ kd : Int, kd = (Y.kind.toNat : Int) := ⟨_, rfl⟩
      obtain ⟨ky, hky⟩ : ∃ ky, ky = Y.key := ⟨_, rfl⟩
      rw [← hN, ← hm, ← hkd, ← hky]
      have al := below_alloc (Below.refl _ w1) (.cells #[.slice A4 N c4, .int .u8 kd, .string ky, .slice B4 m d4] 36)
      have BB := hid (below_then b1 al)
      clear hN hm hkd hky hY hE h0 x4 r4 b1 al HD
      go_wp2
      go_ret2
      exact ⟨none, 0, 0, false, [], rfl, hid ⟨rfl, by rw [E0.out]; rfl, by rw [E0.out]; rfl⟩, LB.nil _ _, BB.out⟩
end Go.Proofs.YtcfjciencggflaaDoor

/- The walks of beside, tells and Check. -/
namespace Go.Proofs.YtcfjciencggflaaDoor
open Go.RowKit PrintLast

theorem besideB_no {key other : ByteArray} {n i : Nat} (hi : i < n) (h : bitOf (pathK key) (i : Int) ≠ bitOf (pathK other) (i : Int)) : besideB key other n = false := by
  unfold besideB
  rw [decide_eq_false (fun e => h (e i hi)), Bool.false_and]
theorem besideB_end {key other : ByteArray} {n : Nat} (h : ∀ i, i < n → bitOf (pathK key) (i : Int) = bitOf (pathK other) (i : Int)) : besideB key other n = !decide (key = other) := by
  unfold besideB
  rw [decide_eq_true h, Bool.true_and]
  by_cases e : key = other <;> simp [e]

set_option maxRecDepth 100000 in
set_option maxHeartbeats 3200000 in
theorem beside_any {w : World} (hT : Table w) {key other : ByteArray} {d : Nat} (hk : key.size ≤ 1000000) (ho : other.size ≤ 1000000) (hd : d ≤ 1000) :
    Calls Tryd.prog 45 #[.string key, .string other, .int .i64 (d : Int)] w fun e w' => e = .returned (.bool (besideB key other d)) ∧ Below w.heap.size w w' := by
  have ks : key.size ≤ maxLen := by unfold maxLen; omega
  have os : other.size ≤ maxLen := by unfold maxLen; omega
  have TT := hid hT
  clear hT
  go_enter Tryd.func45, Tryd.ntmps45
  go_wp2_with (refine wpList_conv rfl (.tmp 10) rfl key rfl ks ?_)
  intro g1 c1 w1 _ q1 b1
  replace TT := hid (TT.out.below b1)
  have BB := hid b1
  have HC1 := hid (sum_dig (bsz key) TT.out q1 (by rw [bsz]; omega))
  clear b1 q1
  go_wp2_with fail
  refine HC1.out.mono ?_
  rintro e w2 ⟨rfl, b2⟩
  replace TT := hid (TT.out.below b2)
  replace BB := hid (below_then BB.out b2)
  obtain ⟨K1, hK1⟩ : ∃ K, K = dig key.data.toList := ⟨_, rfl⟩
  rw [← hK1]
  have HK1 := hid hK1
  clear HC1 b2 hK1
  go_wp2_with (refine wpList_conv rfl (.tmp 13) rfl other rfl os ?_)
  intro g3 c3 w3 _ q3 b3
  replace TT := hid (TT.out.below b3)
  replace BB := hid (below_then BB.out b3)
  have HC3 := hid (sum_dig (bsz other) TT.out q3 (by rw [bsz]; omega))
  clear b3 q3
  go_wp2_with fail
  refine HC3.out.mono ?_
  rintro e w4 ⟨rfl, b4⟩
  replace BB := hid (below_then BB.out b4)
  obtain ⟨K2, hK2⟩ : ∃ K, K = dig other.data.toList := ⟨_, rfl⟩
  rw [← hK2]
  have HK2 := hid hK2
  clear HC3 b4 hK2 TT
  go_wp2
  go_loopw [17] (fun v wr => ∃ k : Nat, k ≤ d ∧ v = .int .i64 (k : Int) ∧ Hid (∀ i, i < k → bitOf (pathK key) (i : Int) = bitOf (pathK other) (i : Int)) ∧ w4 = wr) (fun v _ => d - (intOf v).toNat)
  case atStart => exact ⟨0, Nat.zero_le _, rfl, hid (fun i hi => absurd hi (Nat.not_lt_zero i)), rfl⟩
  case round =>
    obtain ⟨k, hkd, rfl, hP, rfl⟩ := hrel
    by_cases hlt : k < d
    · obtain ⟨x1, hx1⟩ : ∃ x, x = bitOf K1.data.toList (k : Int) := ⟨_, rfl⟩
      obtain ⟨x2, hx2⟩ : ∃ x, x = bitOf K2.data.toList (k : Int) := ⟨_, rfl⟩
      have B1 := bit_any (w := w4) (s := K1) (i := (k : Int)) (by rw [HK1.out, dig_list, sum256_length]; decide) (by omega)
      have B2 := bit_any (w := w4) (s := K2) (i := (k : Int)) (by rw [HK2.out, dig_list, sum256_length]; decide) (by omega)
      rw [← hx1] at B1
      rw [← hx2] at B2
      have HB1 := hid B1
      have HB2 := hid B2
      have y1 : x1 = bitOf (pathK key) (k : Int) := by rw [hx1, HK1.out, dig_list]; rfl
      have y2 : x2 = bitOf (pathK other) (k : Int) := by rw [hx2, HK2.out, dig_list]; rfl
      have HY := hid (And.intro y1 y2)
      clear B1 B2 hx1 hx2 y1 y2
      go_wp2_with fail
      refine HB1.out.mono ?_
      rintro e w5 ⟨rfl, rfl⟩
      go_wp2_with fail
      refine HB2.out.mono ?_
      rintro e w5 ⟨rfl, rfl⟩
      clear HB1 HB2
      by_cases he : x1 = x2
      · have t1 : (x1 == x2) = true := by rw [he]; exact beq_self_eq_true _
        have t2 : (x1 != x2) = false := by unfold bne; rw [t1]; rfl
        have hP2 := hid (show ∀ i, i < k + 1 → bitOf (pathK key) (i : Int) = bitOf (pathK other) (i : Int) from fun i hi => by
          by_cases hik : i = k
          · rw [hik, ← HY.out.1, ← HY.out.2, he]
          · exact hP.out i (by omega))
        clear he
        go_wp2
        go_roundw
        case rel => exact ⟨k + 1, hlt, by go_num, hP2, (by first | exact rfl | exact trivial)⟩
        case measure => simp [intOf]; omega
      · have t1 : (x1 == x2) = false := beq_eq_false_iff_ne.2 he
        have t2 : (x1 != x2) = true := by unfold bne; rw [t1]; rfl
        have E := hid (besideB_no (key := key) (other := other) hlt (by rw [← HY.out.1, ← HY.out.2]; exact he))
        clear he
        go_wp2
        go_ret
        rw [E.out]
        exact ⟨rfl, BB.out⟩
    · obtain rfl : k = d := by omega
      have E := hid (besideB_end hP.out)
      go_wp2
      go_ret
      rw [E.out]
      refine ⟨?_, BB.out⟩
      show Ending.returned (.bool (!(key.toList == other.toList))) = _
      rw [str_beq]

set_option maxRecDepth 100000 in
set_option maxHeartbeats 3200000 in
theorem tells_any {w : World} (hT : Table w) {A B C : Option Addr} {n c m d r D : Nat} {kd : Int} {ky key s1 s2 : ByteArray} {x : Prf} {row : List UInt8} {there : Bool} (hx : LaidAt w A n c kd ky B m d x) (hk : key.size ≤ 1000000) (hf : Fits x) (hr : row.length = r) (hR : BSA w C D row) :
    Calls Tryd.prog 33 #[.agg (laidV A n c kd ky B m d s1 s2), .string key, .slice C r D, .bool there] w fun e w' => e = .returned (.bool (tellsB key row there x)) ∧ Below w.heap.size w w' := by
  unfold laidV
  have al := below_alloc (Below.refl _ w) (.cells #[.slice A n c, .int .u8 kd, .string ky, .slice B m d, .string s1, .string s2] 66)
  have g0 := heap_alloc_new w (.cells #[.slice A n c, .int .u8 kd, .string ky, .slice B m d, .string s1, .string s2] 66)
  have LX := hid (hx.below al)
  have RR := hid (And.intro hr (hR.below al))
  have TT := hid (hT.below al)
  have FX := hid hf
  obtain ⟨S, hS⟩ : ∃ S, S = w.heap.size := ⟨_, rfl⟩
  have HS := hid hS
  have BB := hid al
  rw [← hS] at g0
  have hkd := hid (show kd = (x.kind.toNat : Int) from hx.2.1.symm)
  have hky := hid (show ky = x.key from hx.2.2.symm)
  obtain ⟨v0, v1, v2, v3, v4, v5, -, -, -, -, -, -⟩ := six g0
  have r0 : r ≤ 9223372036854775807 := by rw [← hr]; exact hR.le
  clear hx hr hR hT hf al hS g0
  cases there with
  | true =>
    by_cases h1 : x.kind = 1
    · have t1 : (kd == 1) = true := by rw [hkd.out, h1]; rfl
      have E := hid (show tellsB key row true x = decide (x.row = row) by unfold tellsB; rw [if_pos rfl, decide_eq_true h1, Bool.true_and])
      have HE := hid (equalB_any LX.out.1.2.1 RR.out.1 LX.out.1.2.2.2.2 RR.out.2)
      clear h1
      go_enter Tryd.func33, Tryd.ntmps33
      go_upto_region 1 with fail
      rw [← HS.out]
      generalize w.alloc (.cells #[.slice A n c, .int .u8 kd, .string ky, .slice B m d, .string s1, .string s2] 66) = W at *
      go_wp2_with fail
      refine HE.out.mono ?_
      rintro e w1 ⟨rfl, rfl⟩
      go_wp2
      go_ret
      rw [E.out]
      exact ⟨rfl, BB.out⟩
    · have t1 : (kd == 1) = false := by rw [hkd.out]; exact kind_bne h1
      have E := hid (show tellsB key row true x = false by unfold tellsB; rw [if_pos rfl, decide_eq_false h1, Bool.false_and])
      clear h1
      go_enter Tryd.func33, Tryd.ntmps33
      go_upto_region 1 with fail
      rw [← HS.out]
      generalize w.alloc (.cells #[.slice A n c, .int .u8 kd, .string ky, .slice B m d, .string s1, .string s2] 66) = W at *
      go_wp2
      go_ret
      rw [E.out]
      exact ⟨rfl, BB.out⟩
  | false =>
    by_cases h0 : row = []
    · have z : r = 0 := by rw [← RR.out.1, h0]; rfl
      subst z
      by_cases k0 : x.kind = 0
      · have t1 : (kd == 0) = true := by rw [hkd.out, k0]; rfl
        have E := hid (show tellsB key row false x = true by unfold tellsB; rw [if_neg (by decide), decide_eq_true h0, decide_eq_true k0]; rfl)
        clear h0 k0
        go_enter Tryd.func33, Tryd.ntmps33
        go_upto_region 1 with fail
        rw [← HS.out]
        generalize w.alloc (.cells #[.slice A n c, .int .u8 kd, .string ky, .slice B m d, .string s1, .string s2] 66) = W at *
        go_wp2
        go_ret
        rw [E.out]
        exact ⟨rfl, BB.out⟩
      · have t1 : (kd == 0) = false := by rw [hkd.out]; exact kind_bne k0
        by_cases k2 : x.kind = 2
        · have t2 : (kd == 2) = true := by rw [hkd.out, k2]; rfl
          have E := hid (show tellsB key row false x = besideB key ky n by unfold tellsB; rw [if_neg (by decide), decide_eq_true h0, decide_eq_false k0, decide_eq_true k2, ← hky.out, LX.out.1.1]; rfl)
          have HB := hid (beside_any (key := key) (other := ky) (d := n) TT.out hk (by rw [hky.out]; have := FX.out.2.2.2.1; omega) (by rw [← LX.out.1.1]; have := FX.out.2.1; omega))
          clear h0 k0 k2
          go_enter Tryd.func33, Tryd.ntmps33
          go_upto_region 1 with fail
          rw [← HS.out]
          generalize w.alloc (.cells #[.slice A n c, .int .u8 kd, .string ky, .slice B m d, .string s1, .string s2] 66) = W at *
          go_wp2_with fail
          refine HB.out.mono ?_
          rintro e w1 ⟨rfl, b1⟩
          have BF := below_then BB.out b1
          go_wp2
          go_ret
          rw [E.out]
          exact ⟨rfl, BF⟩
        · have t2 : (kd == 2) = false := by rw [hkd.out]; exact kind_bne k2
          have E := hid (show tellsB key row false x = false by unfold tellsB; rw [if_neg (by decide), decide_eq_true h0, decide_eq_false k0, decide_eq_false k2]; rfl)
          clear h0 k0 k2
          go_enter Tryd.func33, Tryd.ntmps33
          go_upto_region 1 with fail
          rw [← HS.out]
          generalize w.alloc (.cells #[.slice A n c, .int .u8 kd, .string ky, .slice B m d, .string s1, .string s2] 66) = W at *
          go_wp2
          go_ret
          rw [E.out]
          exact ⟨rfl, BB.out⟩
    · have z : r ≠ 0 := fun e => h0 (List.eq_nil_of_length_eq_zero (RR.out.1.trans e))
      have t1 : ((r : Int) == 0) = false := by rw [beq_eq_false_iff_ne]; omega
      have E := hid (show tellsB key row false x = false by unfold tellsB; rw [if_neg (by decide), decide_eq_false h0]; rfl)
      clear h0
      go_enter Tryd.func33, Tryd.ntmps33
      go_upto_region 1 with fail
      rw [← HS.out]
      generalize w.alloc (.cells #[.slice A n c, .int .u8 kd, .string ky, .slice B m d, .string s1, .string s2] 66) = W at *
      go_wp2
      go_ret
      rw [E.out]
      exact ⟨rfl, BB.out⟩
end Go.Proofs.YtcfjciencggflaaDoor

/- The walk of the program's Check. -/
namespace Go.Proofs.YtcfjciencggflaaDoor
open Go.RowKit PrintLast

theorem accept_none {digest key : ByteArray} {row p : List UInt8} {there : Bool} (h : readV p = none) : acceptB digest key row there p = false := by unfold acceptB; rw [h]
theorem accept_some {digest key : ByteArray} {row p : List UInt8} {there : Bool} {x : Prf × ByteArray × ByteArray} (h : readV p = some x) : acceptB digest key row there p = (tellsB key row there x.1 && decide (dig ((stepsB key x.2.1 x.2.2 x.1).headD []) = digest)) := by unfold acceptB; rw [h]
theorem stepsB_top (key last sum : ByteArray) (x : Prf) : ∃ h r, stepsB key last sum x = h :: r ∧ h.length ≤ 33 + last.size + sum.size := ⟨_, _, rfl, by rw [linkB_length, sum256_length]; simp; omega⟩

set_option maxRecDepth 100000 in
set_option maxHeartbeats 6400000 in
theorem check_acc {w : World} (hT : Table w) {A C : Option Addr} {c n r D : Nat} {p row : List UInt8} {digest key : ByteArray} {there : Bool} (hn : p.length = n) (hp : BSA w A c p) (hb : n ≤ 1000000) (hk : key.size ≤ 60000) (hr : row.length = r) (hR : BSA w C D row) :
    Calls Tryd.prog 12 #[.string digest, .string key, .slice C r D, .bool there, .slice A n c] w fun e w' => e = .returned (.bool (acceptB digest key row there p)) ∧ Below w.heap.size w w' := by
  have HR := hid (read_any hn hp hb)
  have TT := hid hT
  have RR := hid (And.intro hr hR)
  clear hn hp hT hr hR
  go_enter Tryd.func12, Tryd.ntmps12
  go_wp2_with fail
  refine HR.out.mono ?_
  rintro e w1 ⟨A1, n1, c1, kd, ky, B1, m1, d1, s1, s2, ok, rfl, HV, b1⟩
  unfold laidV
  have g1 := heap_alloc_new w1 (.cells #[.slice A1 n1 c1, .int .u8 kd, .string ky, .slice B1 m1 d1, .string s1, .string s2] 66)
  have al := below_alloc (Below.refl _ w1) (.cells #[.slice A1 n1 c1, .int .u8 kd, .string ky, .slice B1 m1 d1, .string s1, .string s2] 66)
  have BB := hid (below_then b1 al)
  replace TT := hid ((TT.out.below b1).below al)
  replace RR := hid (And.intro RR.out.1 ((RR.out.2.below b1).below al))
  cases ok with
  | false =>
    have E := hid (accept_none (digest := digest) (key := key) (row := row) (p := p) (there := there) (by
      have := HV.out.1
      cases hr : readV p with
      | none => rfl
      | some x => rw [hr] at this; cases this))
    clear HR b1 al g1
    go_wp2
    go_ret
    rw [E.out]
    exact ⟨rfl, BB.out⟩
  | true =>
    obtain ⟨x, hx⟩ : ∃ x, readV p = some x := by
      cases hr : readV p with
      | none => have := HV.out.1; rw [hr] at this; cases this
      | some x => exact ⟨x, rfl⟩
    obtain ⟨h1, h2, h3⟩ := HV.out.2 x hx
    obtain ⟨f1, f2, f3, -⟩ := readV_fits hx
    have E := hid (accept_some (digest := digest) (key := key) (row := row) (there := there) hx)
    rw [h2, h3] at E
    have HT0 := tells_any (key := key) (s1 := s1) (s2 := s2) (there := there) TT.out (h1.below al) (by omega) f1 RR.out.1 RR.out.2
    unfold laidV at HT0
    have HT := hid HT0
    have HX := hid (And.intro (h1.below al) (And.intro f1 (And.intro (show s1.size = 32 by rw [← h2, f2]) (show s2.size = 32 by rw [← h3, f3]))))
    obtain ⟨S, hS⟩ : ∃ S, S = w1.heap.size := ⟨_, rfl⟩
    have HSS := hid hS
    rw [← hS] at g1
    have G1 := hid g1
    obtain ⟨v0, v1, v2, v3, v4, v5, -, -, -, -, -, -⟩ := six g1
    clear HR b1 al g1 hx h1 h2 h3 f1 f2 f3 HV HT0 hS
    go_upto_region 2 with fail
    rw [← HSS.out]
    generalize w1.alloc (.cells #[.slice A1 n1 c1, .int .u8 kd, .string ky, .slice B1 m1 d1, .string s1, .string s2] 66) = w2 at *
    go_wp2_with fail
    refine HT.out.mono ?_
    rintro e w3 ⟨rfl, b3⟩
    replace BB := hid (below_then BB.out b3)
    replace TT := hid (TT.out.below b3)
    replace G1 := hid (below_heap b3 G1.out)
    have X3 := HX.out.1.below b3
    clear v0 v1 v2 v3 v4 v5 b3 HT
    cases htl : tellsB key row there x.1 with
    | false =>
      have E2 := hid E.out
      rw [htl, Bool.false_and] at E2
      go_wp2
      go_ret
      rw [E2.out]
      exact ⟨rfl, BB.out⟩
    | true =>
      have E2 := hid E.out
      rw [htl, Bool.true_and] at E2
      have HS0 := lsteps_any (key := key) (s1 := s1) (s2 := s2) TT.out X3 hk HX.out.2.1 (by rw [HX.out.2.2.1]; decide) (by rw [HX.out.2.2.2]; decide)
      unfold laidV at HS0
      have HS := hid HS0
      obtain ⟨v0, v1, v2, v3, v4, v5, -, -, -, -, -, -⟩ := six G1.out
      clear HS0 htl E X3
      go_wp2_with fail
      refine HS.out.mono ?_
      rintro e w4 ⟨R, c4, N, ps, rfl, HP, L4, b4⟩
      obtain ⟨top, rst, hup, hlen⟩ := stepsB_top key s1 s2 x.1
      rw [hup] at E2
      obtain ⟨q1, q2⟩ := HP.out
      rw [hup] at q2
      have h0 : 0 < ps.length := by
        have := congrArg List.length q2
        rw [txs_length] at this
        rw [this]
        exact Nat.succ_pos _
      obtain ⟨g, rfl⟩ := L4.place h0
      have c0 := L4.cell 0 h0
      have e0 := L4.elem 0 h0
      have t0 : (ps[0]).2.2 = top := head_text q2 h0
      obtain ⟨a1, m2, d2, hv1, hm1⟩ : ∃ a m c, partV ps[0] = .slice a m c ∧ (ps[0]).2.2.length = m := ⟨_, _, _, rfl, rfl⟩
      have ev : (ps[0]).1 = a1 ∧ (ps[0]).2.1 = d2 := ⟨(Value.slice.inj hv1).1, (Value.slice.inj hv1).2.2⟩
      rw [t0, ev.1, ev.2] at e0
      rw [t0] at hm1
      rw [hv1] at c0
      have tl : top.length ≤ 1000 := by rw [HX.out.2.2.1, HX.out.2.2.2] at hlen; omega
      have HC := hid (sum_dig (w := w4) hm1 (TT.out.below b4) e0 (by omega))
      have i1 : (0 : Int) < (N : Int) := by omega
      replace BB := hid (below_then BB.out b4)
      have EE := hid (show acceptB digest key row there p = decide (dig top = digest) from E2.out)
      clear HS q1 q2 hup h0 e0 t0 hv1 hm1 ev tl L4 b4 hlen E2 HP
      go_wp2_with fail
      refine HC.out.mono ?_
      rintro e w5 ⟨rfl, b5⟩
      have BF := below_then BB.out b5
      go_wp2
      go_ret
      rw [EE.out]
      refine ⟨?_, BF⟩
      show Ending.returned (.bool ((dig top).toList == digest.toList)) = _
      rw [str_beq]
end Go.Proofs.YtcfjciencggflaaDoor

/- The walk of the reference's Check. -/
namespace Go.Proofs.YtcfjciencggflaaDoor
open Go.RowKit PrintLast

/-- The conversion of a text to bytes, as a run. -/
theorem conv_run (w : World) (s : ByteArray) (hs : s.size ≤ maxLen) : ∃ g c w', (convert 9 22 (.string s)).run Tryd.prog w = .ok (.slice (some ⟨g, 0, none⟩) s.size c) w' ∧ BSA w' (some ⟨g, 0, none⟩) c s.data.toList ∧ Below w.heap.size w w' := by
  have hrun := run_bytes_of_string (P := Tryd.prog) w 9 22 5 s Tryd.underlying9 Tryd.underlying22 Tryd.underlying5
  refine ⟨_, _, _, hrun, str_bsa w s hs, ?_⟩
  exact ((Below.refl w.heap.size w).drew).alloc (Nat.le_refl _) _
theorem tells_false {key : ByteArray} {row : List UInt8} {x : Prf} (h : row ≠ [] ∨ x.kind = 1 ∨ (x.kind = 2 ∧ x.key = key)) : tellsB key row false x = false := by
  unfold tellsB
  rw [if_neg (by decide)]
  rcases h with h | h | ⟨h, h2⟩
  · rw [decide_eq_false h]; rfl
  · rw [h]
    simp
  · rw [h]
    unfold besideB
    rw [decide_eq_false (fun e : key ≠ x.key => e h2.symm)]
    simp

set_option maxRecDepth 100000 in
set_option maxHeartbeats 12800000 in
theorem rcheck_acc {w : World} {A C : Option Addr} {c n r D : Nat} {p row : List UInt8} {digest key : ByteArray} {there : Bool} (hn : p.length = n) (hp : BSA w A c p) (hb : n ≤ 1000000) (hk : key.size ≤ 60000) (hr : row.length = r) (hR : BSA w C D row) :
    Calls Tryd.prog 13 #[.string digest, .string key, .slice C r D, .bool there, .slice A n c] w fun e w' => e = .returned (.bool (acceptB digest key row there p)) ∧ Below w.heap.size w w' := by
  have HR := hid (rsteps_any (key := key) hn hp hb hk)
  have PP := hid hp
  have RR := hid (And.intro hr hR)
  have HN := hid hn
  have r0 : r ≤ 9223372036854775807 := by rw [← hr]; exact hR.le
  have ks : key.size ≤ maxLen := by unfold maxLen; omega
  clear hn hp hr hR
  go_enter Tryd.func13, Tryd.ntmps13
  go_wp2_with fail
  refine HR.out.mono ?_
  rintro e w1 ⟨R, N, c1, ok, ps, rfl, HP, L1, b1⟩
  replace PP := hid (PP.out.below b1)
  replace RR := hid (And.intro RR.out.1 (RR.out.2.below b1))
  have BB := hid b1
  have hrs : readV p = none ∨ ∃ x, readV p = some x := by
    cases readV p with
    | none => exact .inl rfl
    | some x => exact .inr ⟨x, rfl⟩
  rcases hrs with hr0 | ⟨x, hx⟩
  · have eo : ok = false := by rw [HP.out.2.1]; unfold stepsP; rw [hr0]; rfl
    subst eo
    have E := hid (accept_none (digest := digest) (key := key) (row := row) (p := p) (there := there) hr0)
    clear HR b1 L1 hr0
    go_wp2
    go_ret
    rw [E.out]
    exact ⟨rfl, BB.out⟩
  · have eo : ok = true := by rw [HP.out.2.1]; unfold stepsP; rw [hx]; rfl
    subst eo
    obtain ⟨f1, f2, f3, f4⟩ := readV_fits hx
    have E := hid (accept_some (digest := digest) (key := key) (row := row) (there := there) hx)
    obtain ⟨q1, -, q2⟩ := HP.out
    rw [show stepsP key p = some (stepsB key x.2.1 x.2.2 x.1) by unfold stepsP; rw [hx]; rfl] at q2
    obtain ⟨top, rst, hup, hlen⟩ := stepsB_top key x.2.1 x.2.2 x.1
    have E1 := E.out
    rw [hup] at E1
    rw [Option.getD_some, hup] at q2
    have h0 : 0 < ps.length := by
      have := congrArg List.length q2
      rw [txs_length] at this
      rw [this]
      exact Nat.succ_pos _
    obtain ⟨g, rfl⟩ := L1.place h0
    have c0 := L1.cell 0 h0
    have e0 := L1.elem 0 h0
    have t0 : (ps[0]).2.2 = top := head_text q2 h0
    obtain ⟨a1, m2, d2, hv1, hm1⟩ : ∃ a m c, partV ps[0] = .slice a m c ∧ (ps[0]).2.2.length = m := ⟨_, _, _, rfl, rfl⟩
    have ev : (ps[0]).1 = a1 ∧ (ps[0]).2.1 = d2 := ⟨(Value.slice.inj hv1).1, (Value.slice.inj hv1).2.2⟩
    rw [t0, ev.1, ev.2] at e0
    rw [t0] at hm1
    rw [hv1] at c0
    have HC := hid (rsum_dig (w := w1) hm1 e0 (by rw [f2, f3] at hlen; omega))
    have i1 : (0 : Int) < (N : Int) := by omega
    have EE := hid (show acceptB digest key row there p = (tellsB key row there x.1 && decide (dig top = digest)) from E1)
    have HX := hid hx
    have HF := hid f1
    have H64 := hid (show 64 ≤ n by rw [← HN.out]; exact f4)
    clear HR b1 L1 hx f1 f2 f3 f4 E E1 q1 q2 hup hlen h0 e0 t0 hv1 hm1 ev HP
    go_wp2_with fail
    refine HC.out.mono ?_
    rintro e w2 ⟨rfl, b2⟩
    replace PP := hid (PP.out.below b2)
    replace RR := hid (And.intro RR.out.1 (RR.out.2.below b2))
    replace BB := hid (below_then BB.out b2)
    obtain ⟨dt, hdt⟩ : ∃ dt, dt = dig top := ⟨_, rfl⟩
    rw [← hdt] at EE ⊢
    clear HC b2 c0 i1 hdt
    by_cases hd : dt = digest
    · have t1 : (dt.toList == digest.toList) = true := by rw [hd]; exact beq_self_eq_true _
      have E2 := EE.out
      rw [decide_eq_true hd, Bool.and_true] at E2
      have ET := hid E2
      obtain ⟨A3, c3, cr1, cb1, cl1⟩ := cut_from (kk := 64) (k := 64) rfl HN.out PP.out H64.out (by have := H64.out; omega)
      obtain ⟨M0, hM⟩ : ∃ M0, M0 = n - 64 := ⟨_, rfl⟩
      rw [← hM] at cr1 cl1
      have HD := hid (rdec_any cl1 (cb1 _ PP.out) (by omega))
      clear E2 EE hd cb1 cl1 hM
      go_wp2_with fail
      refine HD.out.mono ?_
      rintro e w3 ⟨A4, c4, B4, d4, rfl, x4, r4, b3⟩
      replace RR := hid (And.intro RR.out.1 (RR.out.2.below b3))
      replace BB := hid (below_then BB.out b3)
      have hY : (resB (p.drop 64)).2 = x.1 := by
        have := (readV_res (by rw [HN.out]; have := H64.out; omega)).2 x HX.out
        rw [this]
      rw [hY] at x4 r4 ⊢
      unfold prfV
      obtain ⟨Y, hYY⟩ : ∃ Y, Y = x.1 := ⟨_, rfl⟩
      rw [← hYY] at x4 r4 ⊢ ET HF
      obtain ⟨ns, hns⟩ : ∃ ns, ns = Y.side.length := ⟨_, rfl⟩
      obtain ⟨m, hm⟩ : ∃ m, m = Y.row.length := ⟨_, rfl⟩
      obtain ⟨kd, hkd⟩ : ∃ kd : Int, kd = (Y.kind.toNat : Int) := ⟨_, rfl⟩
      obtain ⟨ky, hky⟩ : ∃ ky, ky = Y.key := ⟨_, rfl⟩
      obtain ⟨E9, hE9⟩ : ∃ E9, E9 = (resB (p.drop 64)).1 := ⟨_, rfl⟩
      rw [← hns, ← hm, ← hkd, ← hky, ← hE9]
      have HNS := hid (And.intro hns (show ns ≤ 256 by rw [hns]; exact HF.out.2.1))
      have HM := hid hm
      have HKD := hid hkd
      have HKY := hid (And.intro hky (show ky.size ≤ 4000 by rw [hky]; exact HF.out.2.2.2.1))
      have ns0 : ns ≤ 256 := HNS.out.2
      obtain ⟨S6, hS6⟩ : ∃ S6, S6 = w3.heap.size := ⟨_, rfl⟩
      have g6 := heap_alloc_new w3 (.cells #[.slice A4 ns c4, .int .u8 kd, .string ky, .slice B4 m d4] 36)
      have al := below_alloc (Below.refl _ w3) (.cells #[.slice A4 ns c4, .int .u8 kd, .string ky, .slice B4 m d4] 36)
      replace BB := hid (below_then BB.out al)
      replace RR := hid (And.intro RR.out.1 (RR.out.2.below al))
      rw [← hS6] at g6
      have RY := hid (r4.bsa.below al)
      have HS6 := hid hS6
      have kys : ky.size ≤ maxLen := by have := HKY.out.2; unfold maxLen; omega
      obtain ⟨v0, v1, v2, v3, -, -, -, -⟩ := four g6
      have G6 := hid g6
      clear hns hm hkd hky hE9 hYY hY x4 r4 b3 al hS6 HD g6 cr1
      go_upto_region 5 with fail
      rw [← HS6.out]
      generalize w3.alloc (.cells #[.slice A4 ns c4, .int .u8 kd, .string ky, .slice B4 m d4] 36) = w4 at *
      cases there with
      | true =>
        by_cases h1 : Y.kind = 1
        · have t2 : (kd == 1) = true := by rw [HKD.out, h1]; rfl
          have E3 := hid (show acceptB digest key row true p = decide (Y.row = row) by rw [ET.out]; unfold tellsB; rw [if_pos rfl, decide_eq_true h1, Bool.true_and])
          have HB := hid (bytes_n HM.out.symm RR.out.1 RY.out RR.out.2)
          clear h1
          go_wp2_with fail
          refine HB.out.mono ?_
          rintro e w5 ⟨rfl, b5⟩
          have BF := below_then BB.out b5
          go_wp2
          go_ret
          rw [E3.out]
          exact ⟨rfl, BF⟩
        · have t2 : (kd == 1) = false := by rw [HKD.out]; exact kind_bne h1
          have E3 := hid (show acceptB digest key row true p = false by rw [ET.out]; unfold tellsB; rw [if_pos rfl, decide_eq_false h1, Bool.false_and])
          clear h1
          go_wp2
          go_ret
          rw [E3.out]
          exact ⟨rfl, BB.out⟩
      | false =>
        by_cases hrow : row = []
        · have z : r = 0 := by rw [← RR.out.1, hrow]; rfl
          subst z
          by_cases h1 : Y.kind = 1
          · have t2 : (kd == 1) = true := by rw [HKD.out, h1]; rfl
            have E3 := hid (show acceptB digest key row false p = false by rw [ET.out]; exact tells_false (.inr (.inl h1)))
            clear h1
            go_wp2
            go_ret
            rw [E3.out]
            exact ⟨rfl, BB.out⟩
          · have t2 : (kd == 1) = false := by rw [HKD.out]; exact kind_bne h1
            by_cases h2 : Y.kind = 2 ∧ ky = key
            · have t3 : (kd == 2) = true := by rw [HKD.out, h2.1]; rfl
              have t4 : (ky.toList == key.toList) = true := by rw [h2.2]; exact beq_self_eq_true _
              have E3 := hid (show acceptB digest key row false p = false by rw [ET.out]; exact tells_false (.inr (.inr ⟨h2.1, by rw [← HKY.out.1]; exact h2.2⟩)))
              clear h1 h2
              go_wp2
              go_ret
              rw [E3.out]
              exact ⟨rfl, BB.out⟩
            · by_cases k2 : Y.kind = 2
              · have t3 : (kd == 2) = true := by rw [HKD.out, k2]; rfl
                have hne : ¬ key = ky := fun e => h2 ⟨k2, e.symm⟩
                have HNE := hid hne
                have t4 : (ky.toList == key.toList) = false := by rw [str_beq]; exact decide_eq_false (fun e => hne e.symm)
                have E3 := hid (show acceptB digest key row false p = besideB key ky ns by rw [ET.out]; unfold tellsB; rw [if_neg (by decide), decide_eq_true hrow, k2, HKY.out.1, HNS.out.1]; simp)
                clear h1 h2 k2 hne hrow
                have CVK : Hid (∀ w', Below w4.heap.size w4 w' → ∃ g c w'', (convert 9 22 (.string key)).run Tryd.prog w' = .ok (.slice (some ⟨g, 0, none⟩) key.size c) w'' ∧ BSA w'' (some ⟨g, 0, none⟩) c key.data.toList ∧ Below w'.heap.size w' w'') := hid (fun w' _ => conv_run w' key ks)
                have CVO : Hid (∀ w', Below w4.heap.size w4 w' → ∃ g c w'', (convert 9 22 (.string ky)).run Tryd.prog w' = .ok (.slice (some ⟨g, 0, none⟩) ky.size c) w'' ∧ BSA w'' (some ⟨g, 0, none⟩) c ky.data.toList ∧ Below w'.heap.size w' w'') := hid (fun w' _ => conv_run w' ky kys)
                obtain ⟨K1, hK1⟩ : ∃ K, K = dig key.data.toList := ⟨_, rfl⟩
                obtain ⟨K2, hK2⟩ : ∃ K, K = dig ky.data.toList := ⟨_, rfl⟩
                have HS1 : Hid (∀ (w' : World) (g c : Nat), BSA w' (some ⟨g, 0, none⟩) c key.data.toList → Calls Tryd.prog 11 #[.slice (some ⟨g, 0, none⟩) key.size c] w' fun e w'' => e = .returned (.string K1) ∧ Below w'.heap.size w' w'') := hid (fun w' g c h => by rw [hK1]; exact rsum_dig (bsz key) h (by rw [bsz]; omega))
                have HS2 : Hid (∀ (w' : World) (g c : Nat), BSA w' (some ⟨g, 0, none⟩) c ky.data.toList → Calls Tryd.prog 11 #[.slice (some ⟨g, 0, none⟩) ky.size c] w' fun e w'' => e = .returned (.string K2) ∧ Below w'.heap.size w' w'') := hid (fun w' g c h => by rw [hK2]; exact rsum_dig (bsz ky) h (by rw [bsz]; have := HKY.out.2; omega))
                have HK1 := hid hK1
                have HK2 := hid hK2
                have B40 := (Below.refl w4.heap.size w4).drew
                clear hK1 hK2
                go_wp2
                refine start_ (n := 9) (S := fun w' => w'.cell? ⟨S6, 2, none⟩ = some (.string ky) ∧ Below w4.heap.size w4 w') (ds := []) #[false, false, false, false, false, false, false, false, false] (by kernel_rfl) rfl rfl ⟨v2, B40⟩ (fun hHeld => ?_)
                refine pure_ (i := 0) (N := some 69) (v := ?_) (a' := ?_) #[true, false, false, false, false, false, false, false, false] rfl rfl (by kernel_rfl) (fun _ _ _ h => h) (Or.inl ⟨by rfl, ?_⟩) ?_ ?_
                rotate_left
                · intro w'
                  go_simp
                  with_reducible rfl
                rotate_left
                · simp only [Act.put, List.setIfInBounds_toArray, List.set_cons_zero, List.set_cons_succ, i64_w, i32_w]
                  rfl
                refine pure_ (i := 3) (N := some 72) (v := ?_) (a' := ?_) #[true, false, false, true, false, false, false, false, false] rfl rfl (by kernel_rfl) (fun _ _ _ h => h) (Or.inl ⟨by rfl, ?_⟩) ?_ ?_
                rotate_left
                · intro w'
                  go_simp
                  with_reducible rfl
                rotate_left
                · simp only [Act.put, List.setIfInBounds_toArray, List.set_cons_zero, List.set_cons_succ, i64_w, i32_w]
                  rfl
                refine take_ (i := 4) (N := some 73) (v := ?_) (a' := ?_) #[true, false, false, true, true, false, false, false, false] rfl rfl (by kernel_rfl) (fun _ _ _ h => h) (Or.inl ⟨by rfl, ?_⟩) hHeld ?_ ?_
                rotate_left
                · rintro w' ⟨s0, s1⟩
                  go_simp
                  with_reducible rfl
                rotate_left
                · simp only [Act.put, List.setIfInBounds_toArray, List.set_cons_zero, List.set_cons_succ, i64_w, i32_w]
                  rfl
                refine join_ (σ := Nat × Nat × Nat × Nat) 3 #[true, true, true, true, true, true, false, false, false] (fun s => [(70, .slice (some ⟨s.1, 0, none⟩) key.size s.2.1), (71, .string K1), (74, .slice (some ⟨s.2.2.1, 0, none⟩) ky.size s.2.2.2)]) (fun s w' => w'.cell? ⟨S6, 2, none⟩ = some (.string ky) ∧ Below w4.heap.size w4 w' ∧ BSA w' (some ⟨s.2.2.1, 0, none⟩) s.2.2.2 ky.data.toList) ?_ ?_
                rotate_left
                · intro hCont
                  refine two_ (i := 1) (j := 5) (Ni := some 70) (Nj := some 74) #[true, true, false, true, true, false, false, false, false] #[true, false, false, true, true, true, false, false, false] rfl rfl rfl rfl (by kernel_rfl) (by decide) (by decide) (fun K hK => ?_) (fun K hK => ?_)
                  · skip
                    obtain ⟨g1, k1, wk1, hr1, z1, b1⟩ := CVK.out _ hHeld.2
                    refine value_ (w1 := ?_) (v := ?_) (by rfl) rfl ?_ ?_
                    rotate_left 2
                    · go_simp
                      constructor
                      · rfl
                      · rfl
                    refine hK.out _ _ ⟨(below_cell b1 hHeld.1), (below_then hHeld.2 b1)⟩ (fun hHeld => ?_)
                    clear hK K
                    refine norm_ (a' := ?_) ?_ ?_
                    rotate_left
                    · show Act.put _ (some 70) _ = _
                      simp only [Act.put, List.setIfInBounds_toArray, List.set_cons_zero, List.set_cons_succ, i64_w, i32_w]
                      rfl
                    refine two_ (i := 2) (j := 5) (Ni := some 71) (Nj := some 74) #[true, true, true, true, true, false, false, false, false] #[true, true, false, true, true, true, false, false, false] rfl rfl rfl rfl (by kernel_rfl) (by decide) (by decide) (fun K hK => ?_) (fun K hK => ?_)
                    · skip
                      refine goes_ Tryd.func11 (by kernel_rfl) rfl #[.slice (some ⟨_, 0, none⟩) key.size k1] (by rfl) rfl rfl (by simp only [List.map_toArray, List.map_cons, List.map_nil]; rfl) ?_
                      with_reducible refine ((HS1.out _ _ _ z1)).mono ?_
                      rintro e' wk2 ⟨rfl, b2⟩
                      refine ⟨_, rfl, ?_⟩
                      refine hK.out _ _ ⟨(below_cell b2 hHeld.1), (below_then hHeld.2 b2)⟩ (fun hHeld => ?_)
                      clear hK K
                      refine norm_ (a' := ?_) ?_ ?_
                      rotate_left
                      · show Act.put _ (some 71) _ = _
                        simp only [Act.put, List.setIfInBounds_toArray, List.set_cons_zero, List.set_cons_succ, i64_w, i32_w]
                        rfl
                      refine one_ (i := 5) (N := some 74) #[true, true, true, true, true, true, false, false, false] rfl rfl (by kernel_rfl) (by decide) (fun K hK => ?_)
                      obtain ⟨g5, k5, wk5, hr5, z5, b5⟩ := CVO.out _ hHeld.2
                      refine value_ (w1 := ?_) (v := ?_) (by rfl) rfl ?_ ?_
                      rotate_left 2
                      · go_simp
                        constructor
                        · rfl
                        · rfl
                      refine hK.out _ _ ⟨(below_cell b5 hHeld.1), (below_then hHeld.2 b5)⟩ (fun hHeld => ?_)
                      clear hK K
                      refine norm_ (a' := ?_) ?_ ?_
                      rotate_left
                      · show Act.put _ (some 74) _ = _
                        simp only [Act.put, List.setIfInBounds_toArray, List.set_cons_zero, List.set_cons_succ, i64_w, i32_w]
                        rfl
                      exact norm_ (by simp only [putAll, Act.put, List.setIfInBounds_toArray, List.set_cons_zero, List.set_cons_succ]) (hCont (g1, k1, g5, k5) _ ⟨hHeld.1, hHeld.2, z5⟩)
                    · skip
                      obtain ⟨g5, k5, wk5, hr5, z5, b5⟩ := CVO.out _ hHeld.2
                      refine value_ (w1 := ?_) (v := ?_) (by rfl) rfl ?_ ?_
                      rotate_left 2
                      · go_simp
                        constructor
                        · rfl
                        · rfl
                      replace z1 := z1.below b5
                      refine hK.out _ _ ⟨(below_cell b5 hHeld.1), (below_then hHeld.2 b5)⟩ (fun hHeld => ?_)
                      clear hK K
                      refine norm_ (a' := ?_) ?_ ?_
                      rotate_left
                      · show Act.put _ (some 74) _ = _
                        simp only [Act.put, List.setIfInBounds_toArray, List.set_cons_zero, List.set_cons_succ, i64_w, i32_w]
                        rfl
                      refine one_ (i := 2) (N := some 71) #[true, true, true, true, true, true, false, false, false] rfl rfl (by kernel_rfl) (by decide) (fun K hK => ?_)
                      refine goes_ Tryd.func11 (by kernel_rfl) rfl #[.slice (some ⟨_, 0, none⟩) key.size k1] (by rfl) rfl rfl (by simp only [List.map_toArray, List.map_cons, List.map_nil]; rfl) ?_
                      with_reducible refine ((HS1.out _ _ _ z1)).mono ?_
                      rintro e' wk2 ⟨rfl, b2⟩
                      refine ⟨_, rfl, ?_⟩
                      replace z5 := z5.below b2
                      refine hK.out _ _ ⟨(below_cell b2 hHeld.1), (below_then hHeld.2 b2)⟩ (fun hHeld => ?_)
                      clear hK K
                      refine norm_ (a' := ?_) ?_ ?_
                      rotate_left
                      · show Act.put _ (some 71) _ = _
                        simp only [Act.put, List.setIfInBounds_toArray, List.set_cons_zero, List.set_cons_succ, i64_w, i32_w]
                        rfl
                      exact norm_ (by simp only [putAll, Act.put, List.setIfInBounds_toArray, List.set_cons_zero, List.set_cons_succ]) (hCont (g1, k1, g5, k5) _ ⟨hHeld.1, hHeld.2, z5⟩)
                  · skip
                    obtain ⟨g5, k5, wk5, hr5, z5, b5⟩ := CVO.out _ hHeld.2
                    refine value_ (w1 := ?_) (v := ?_) (by rfl) rfl ?_ ?_
                    rotate_left 2
                    · go_simp
                      constructor
                      · rfl
                      · rfl
                    refine hK.out _ _ ⟨(below_cell b5 hHeld.1), (below_then hHeld.2 b5)⟩ (fun hHeld => ?_)
                    clear hK K
                    refine norm_ (a' := ?_) ?_ ?_
                    rotate_left
                    · show Act.put _ (some 74) _ = _
                      simp only [Act.put, List.setIfInBounds_toArray, List.set_cons_zero, List.set_cons_succ, i64_w, i32_w]
                      rfl
                    refine one_ (i := 1) (N := some 70) #[true, true, false, true, true, true, false, false, false] rfl rfl (by kernel_rfl) (by decide) (fun K hK => ?_)
                    obtain ⟨g1, k1, wk1, hr1, z1, b1⟩ := CVK.out _ hHeld.2
                    refine value_ (w1 := ?_) (v := ?_) (by rfl) rfl ?_ ?_
                    rotate_left 2
                    · go_simp
                      constructor
                      · rfl
                      · rfl
                    replace z5 := z5.below b1
                    refine hK.out _ _ ⟨(below_cell b1 hHeld.1), (below_then hHeld.2 b1)⟩ (fun hHeld => ?_)
                    clear hK K
                    refine norm_ (a' := ?_) ?_ ?_
                    rotate_left
                    · show Act.put _ (some 70) _ = _
                      simp only [Act.put, List.setIfInBounds_toArray, List.set_cons_zero, List.set_cons_succ, i64_w, i32_w]
                      rfl
                    refine one_ (i := 2) (N := some 71) #[true, true, true, true, true, true, false, false, false] rfl rfl (by kernel_rfl) (by decide) (fun K hK => ?_)
                    refine goes_ Tryd.func11 (by kernel_rfl) rfl #[.slice (some ⟨_, 0, none⟩) key.size k1] (by rfl) rfl rfl (by simp only [List.map_toArray, List.map_cons, List.map_nil]; rfl) ?_
                    with_reducible refine ((HS1.out _ _ _ z1)).mono ?_
                    rintro e' wk2 ⟨rfl, b2⟩
                    refine ⟨_, rfl, ?_⟩
                    replace z5 := z5.below b2
                    refine hK.out _ _ ⟨(below_cell b2 hHeld.1), (below_then hHeld.2 b2)⟩ (fun hHeld => ?_)
                    clear hK K
                    refine norm_ (a' := ?_) ?_ ?_
                    rotate_left
                    · show Act.put _ (some 71) _ = _
                      simp only [Act.put, List.setIfInBounds_toArray, List.set_cons_zero, List.set_cons_succ, i64_w, i32_w]
                      rfl
                    exact norm_ (by simp only [putAll, Act.put, List.setIfInBounds_toArray, List.set_cons_zero, List.set_cons_succ]) (hCont (g1, k1, g5, k5) _ ⟨hHeld.1, hHeld.2, z5⟩)
                rintro ⟨g1, k1, g5, k5⟩ wk5 ⟨hh1, hh2, z5⟩
                have hHeld : wk5.cell? ⟨S6, 2, none⟩ = some (.string ky) ∧ Below w4.heap.size w4 wk5 := ⟨hh1, hh2⟩
                refine norm_ (a' := ?_) ?_ ?_
                rotate_left
                · simp only [putAll, Act.put, List.setIfInBounds_toArray, List.set_cons_zero, List.set_cons_succ]
                  rfl
                refine one_ (i := 6) (N := some 75) #[true, true, true, true, true, true, true, false, false] rfl rfl (by kernel_rfl) (by decide) (fun K hK => ?_)
                refine goes_ Tryd.func11 (by kernel_rfl) rfl #[.slice (some ⟨g5, 0, none⟩) ky.size k5] (by rfl) rfl rfl (by simp only [List.map_toArray, List.map_cons, List.map_nil]; rfl) ?_
                with_reducible refine ((HS2.out _ _ _ z5)).mono ?_
                rintro e' w5 ⟨rfl, b6⟩
                refine ⟨_, rfl, ?_⟩
                refine hK.out _ _ ⟨(below_cell b6 hHeld.1), (below_then hHeld.2 b6)⟩ (fun hHeld => ?_)
                clear hK K
                refine norm_ (a' := ?_) ?_ ?_
                rotate_left
                · show Act.put _ (some 75) _ = _
                  simp only [Act.put, List.setIfInBounds_toArray, List.set_cons_zero, List.set_cons_succ, i64_w, i32_w]
                  rfl
                refine pure_ (i := 7) (N := some 15) (v := ?_) (a' := ?_) #[true, true, true, true, true, true, true, true, false] rfl rfl (by kernel_rfl) (fun _ _ _ h => h) (Or.inl ⟨by rfl, ?_⟩) ?_ ?_
                rotate_left
                · intro w'
                  go_simp
                  with_reducible rfl
                rotate_left
                · simp only [Act.put, List.setIfInBounds_toArray, List.set_cons_zero, List.set_cons_succ, i64_w, i32_w]
                  rfl
                refine pure_ (i := 8) (N := some 16) (v := ?_) (a' := ?_) #[true, true, true, true, true, true, true, true, true] rfl rfl (by kernel_rfl) (fun _ _ _ h => h) (Or.inl ⟨by rfl, ?_⟩) ?_ ?_
                rotate_left
                · intro w'
                  go_simp
                  with_reducible rfl
                rotate_left
                · simp only [Act.put, List.setIfInBounds_toArray, List.set_cons_zero, List.set_cons_succ, i64_w, i32_w]
                  rfl
                refine done_ (by kernel_rfl) ?_
                have b45 := hHeld.2
                have G65 := hid (below_heap b45 G6.out)
                replace BB := hid (below_then BB.out b45)
                clear hHeld b45 hh1 hh2 z5 b6 CVK CVO HS1 HS2 v0 v1 v2 v3 G6 B40
                obtain ⟨v0, v1, v2, v3, -, -, -, -⟩ := four G65.out
                go_wp2
                go_loopw [17] (fun v wr => ∃ k : Nat, k ≤ ns ∧ v = .int .i64 (k : Int) ∧ Hid (∀ i, i < k → bitOf (pathK key) (i : Int) = bitOf (pathK ky) (i : Int)) ∧ w5 = wr) (fun v _ => ns - (intOf v).toNat)
                case atStart => exact ⟨0, Nat.zero_le _, rfl, hid (fun i hi => absurd hi (Nat.not_lt_zero i)), rfl⟩
                case round =>
                  obtain ⟨k, hkn, rfl, hP, rfl⟩ := hrel
                  by_cases hlt : k < ns
                  · obtain ⟨x1, hx1⟩ : ∃ x, x = bitOf K1.data.toList (k : Int) := ⟨_, rfl⟩
                    obtain ⟨x2, hx2⟩ : ∃ x, x = bitOf K2.data.toList (k : Int) := ⟨_, rfl⟩
                    have B1 := rbit_any (w := w5) (s := K1) (i := (k : Int)) (by rw [HK1.out, dig_list, sum256_length]; decide) (by omega)
                    have B2 := rbit_any (w := w5) (s := K2) (i := (k : Int)) (by rw [HK2.out, dig_list, sum256_length]; decide) (by omega)
                    rw [← hx1] at B1
                    rw [← hx2] at B2
                    have HB1 := hid B1
                    have HB2 := hid B2
                    have y1 : x1 = bitOf (pathK key) (k : Int) := by rw [hx1, HK1.out, dig_list]; rfl
                    have y2 : x2 = bitOf (pathK ky) (k : Int) := by rw [hx2, HK2.out, dig_list]; rfl
                    have HY := hid (And.intro y1 y2)
                    clear B1 B2 hx1 hx2 y1 y2
                    go_wp2_with fail
                    refine HB1.out.mono ?_
                    rintro e w6 ⟨rfl, rfl⟩
                    go_wp2_with fail
                    refine HB2.out.mono ?_
                    rintro e w6 ⟨rfl, rfl⟩
                    clear HB1 HB2
                    by_cases he : x1 = x2
                    · have y3 : (x1 == x2) = true := by rw [he]; exact beq_self_eq_true _
                      have y4 : (x1 != x2) = false := by unfold bne; rw [y3]; rfl
                      have hP2 := hid (show ∀ i, i < k + 1 → bitOf (pathK key) (i : Int) = bitOf (pathK ky) (i : Int) from fun i hi => by
                        by_cases hik : i = k
                        · rw [hik, ← HY.out.1, ← HY.out.2, he]
                        · exact hP.out i (by omega))
                      clear he
                      go_wp2
                      go_roundw
                      case rel => exact ⟨k + 1, hlt, by go_num, hP2, (by first | exact rfl | exact trivial)⟩
                      case measure => simp [intOf]; omega
                    · have y3 : (x1 == x2) = false := beq_eq_false_iff_ne.2 he
                      have y4 : (x1 != x2) = true := by unfold bne; rw [y3]; rfl
                      have E := hid (besideB_no (key := key) (other := ky) hlt (by rw [← HY.out.1, ← HY.out.2]; exact he))
                      clear he
                      go_wp2
                      go_ret
                      rw [E3.out, E.out]
                      exact ⟨rfl, BB.out⟩
                  · obtain rfl : k = ns := by omega
                    have E := hid (besideB_end hP.out)
                    go_wp2
                    go_ret
                    rw [E3.out, E.out, decide_eq_false HNE.out]
                    exact ⟨rfl, BB.out⟩
              · have t3 : (kd == 2) = false := by rw [HKD.out]; exact kind_bne k2
                have k0 : Y.kind = 0 := by
                  rcases kind_three HF.out.2.2.1 with h | h | h
                  · exact h
                  · exact absurd h h1
                  · exact absurd h k2
                have E3 := hid (show acceptB digest key row false p = true by rw [ET.out]; unfold tellsB; rw [if_neg (by decide), decide_eq_true hrow, decide_eq_true k0]; rfl)
                clear h1 h2 k2 k0 hrow
                have CVK : Hid (∀ w', Below w4.heap.size w4 w' → ∃ g c w'', (convert 9 22 (.string key)).run Tryd.prog w' = .ok (.slice (some ⟨g, 0, none⟩) key.size c) w'' ∧ BSA w'' (some ⟨g, 0, none⟩) c key.data.toList ∧ Below w'.heap.size w' w'') := hid (fun w' _ => conv_run w' key ks)
                have CVO : Hid (∀ w', Below w4.heap.size w4 w' → ∃ g c w'', (convert 9 22 (.string ky)).run Tryd.prog w' = .ok (.slice (some ⟨g, 0, none⟩) ky.size c) w'' ∧ BSA w'' (some ⟨g, 0, none⟩) c ky.data.toList ∧ Below w'.heap.size w' w'') := hid (fun w' _ => conv_run w' ky kys)
                obtain ⟨K1, hK1⟩ : ∃ K, K = dig key.data.toList := ⟨_, rfl⟩
                obtain ⟨K2, hK2⟩ : ∃ K, K = dig ky.data.toList := ⟨_, rfl⟩
                have HS1 : Hid (∀ (w' : World) (g c : Nat), BSA w' (some ⟨g, 0, none⟩) c key.data.toList → Calls Tryd.prog 11 #[.slice (some ⟨g, 0, none⟩) key.size c] w' fun e w'' => e = .returned (.string K1) ∧ Below w'.heap.size w' w'') := hid (fun w' g c h => by rw [hK1]; exact rsum_dig (bsz key) h (by rw [bsz]; omega))
                have HS2 : Hid (∀ (w' : World) (g c : Nat), BSA w' (some ⟨g, 0, none⟩) c ky.data.toList → Calls Tryd.prog 11 #[.slice (some ⟨g, 0, none⟩) ky.size c] w' fun e w'' => e = .returned (.string K2) ∧ Below w'.heap.size w' w'') := hid (fun w' g c h => by rw [hK2]; exact rsum_dig (bsz ky) h (by rw [bsz]; have := HKY.out.2; omega))
                have HK1 := hid hK1
                have HK2 := hid hK2
                have B40 := (Below.refl w4.heap.size w4).drew
                clear hK1 hK2
                go_wp2
                refine start_ (n := 9) (S := fun w' => w'.cell? ⟨S6, 2, none⟩ = some (.string ky) ∧ Below w4.heap.size w4 w') (ds := []) #[false, false, false, false, false, false, false, false, false] (by kernel_rfl) rfl rfl ⟨v2, B40⟩ (fun hHeld => ?_)
                refine pure_ (i := 0) (N := some 69) (v := ?_) (a' := ?_) #[true, false, false, false, false, false, false, false, false] rfl rfl (by kernel_rfl) (fun _ _ _ h => h) (Or.inl ⟨by rfl, ?_⟩) ?_ ?_
                rotate_left
                · intro w'
                  go_simp
                  with_reducible rfl
                rotate_left
                · simp only [Act.put, List.setIfInBounds_toArray, List.set_cons_zero, List.set_cons_succ, i64_w, i32_w]
                  rfl
                refine pure_ (i := 3) (N := some 72) (v := ?_) (a' := ?_) #[true, false, false, true, false, false, false, false, false] rfl rfl (by kernel_rfl) (fun _ _ _ h => h) (Or.inl ⟨by rfl, ?_⟩) ?_ ?_
                rotate_left
                · intro w'
                  go_simp
                  with_reducible rfl
                rotate_left
                · simp only [Act.put, List.setIfInBounds_toArray, List.set_cons_zero, List.set_cons_succ, i64_w, i32_w]
                  rfl
                refine take_ (i := 4) (N := some 73) (v := ?_) (a' := ?_) #[true, false, false, true, true, false, false, false, false] rfl rfl (by kernel_rfl) (fun _ _ _ h => h) (Or.inl ⟨by rfl, ?_⟩) hHeld ?_ ?_
                rotate_left
                · rintro w' ⟨s0, s1⟩
                  go_simp
                  with_reducible rfl
                rotate_left
                · simp only [Act.put, List.setIfInBounds_toArray, List.set_cons_zero, List.set_cons_succ, i64_w, i32_w]
                  rfl
                refine join_ (σ := Nat × Nat × Nat × Nat) 3 #[true, true, true, true, true, true, false, false, false] (fun s => [(70, .slice (some ⟨s.1, 0, none⟩) key.size s.2.1), (71, .string K1), (74, .slice (some ⟨s.2.2.1, 0, none⟩) ky.size s.2.2.2)]) (fun s w' => w'.cell? ⟨S6, 2, none⟩ = some (.string ky) ∧ Below w4.heap.size w4 w' ∧ BSA w' (some ⟨s.2.2.1, 0, none⟩) s.2.2.2 ky.data.toList) ?_ ?_
                rotate_left
                · intro hCont
                  refine two_ (i := 1) (j := 5) (Ni := some 70) (Nj := some 74) #[true, true, false, true, true, false, false, false, false] #[true, false, false, true, true, true, false, false, false] rfl rfl rfl rfl (by kernel_rfl) (by decide) (by decide) (fun K hK => ?_) (fun K hK => ?_)
                  · skip
                    obtain ⟨g1, k1, wk1, hr1, z1, b1⟩ := CVK.out _ hHeld.2
                    refine value_ (w1 := ?_) (v := ?_) (by rfl) rfl ?_ ?_
                    rotate_left 2
                    · go_simp
                      constructor
                      · rfl
                      · rfl
                    refine hK.out _ _ ⟨(below_cell b1 hHeld.1), (below_then hHeld.2 b1)⟩ (fun hHeld => ?_)
                    clear hK K
                    refine norm_ (a' := ?_) ?_ ?_
                    rotate_left
                    · show Act.put _ (some 70) _ = _
                      simp only [Act.put, List.setIfInBounds_toArray, List.set_cons_zero, List.set_cons_succ, i64_w, i32_w]
                      rfl
                    refine two_ (i := 2) (j := 5) (Ni := some 71) (Nj := some 74) #[true, true, true, true, true, false, false, false, false] #[true, true, false, true, true, true, false, false, false] rfl rfl rfl rfl (by kernel_rfl) (by decide) (by decide) (fun K hK => ?_) (fun K hK => ?_)
                    · skip
                      refine goes_ Tryd.func11 (by kernel_rfl) rfl #[.slice (some ⟨_, 0, none⟩) key.size k1] (by rfl) rfl rfl (by simp only [List.map_toArray, List.map_cons, List.map_nil]; rfl) ?_
                      with_reducible refine ((HS1.out _ _ _ z1)).mono ?_
                      rintro e' wk2 ⟨rfl, b2⟩
                      refine ⟨_, rfl, ?_⟩
                      refine hK.out _ _ ⟨(below_cell b2 hHeld.1), (below_then hHeld.2 b2)⟩ (fun hHeld => ?_)
                      clear hK K
                      refine norm_ (a' := ?_) ?_ ?_
                      rotate_left
                      · show Act.put _ (some 71) _ = _
                        simp only [Act.put, List.setIfInBounds_toArray, List.set_cons_zero, List.set_cons_succ, i64_w, i32_w]
                        rfl
                      refine one_ (i := 5) (N := some 74) #[true, true, true, true, true, true, false, false, false] rfl rfl (by kernel_rfl) (by decide) (fun K hK => ?_)
                      obtain ⟨g5, k5, wk5, hr5, z5, b5⟩ := CVO.out _ hHeld.2
                      refine value_ (w1 := ?_) (v := ?_) (by rfl) rfl ?_ ?_
                      rotate_left 2
                      · go_simp
                        constructor
                        · rfl
                        · rfl
                      refine hK.out _ _ ⟨(below_cell b5 hHeld.1), (below_then hHeld.2 b5)⟩ (fun hHeld => ?_)
                      clear hK K
                      refine norm_ (a' := ?_) ?_ ?_
                      rotate_left
                      · show Act.put _ (some 74) _ = _
                        simp only [Act.put, List.setIfInBounds_toArray, List.set_cons_zero, List.set_cons_succ, i64_w, i32_w]
                        rfl
                      exact norm_ (by simp only [putAll, Act.put, List.setIfInBounds_toArray, List.set_cons_zero, List.set_cons_succ]) (hCont (g1, k1, g5, k5) _ ⟨hHeld.1, hHeld.2, z5⟩)
                    · skip
                      obtain ⟨g5, k5, wk5, hr5, z5, b5⟩ := CVO.out _ hHeld.2
                      refine value_ (w1 := ?_) (v := ?_) (by rfl) rfl ?_ ?_
                      rotate_left 2
                      · go_simp
                        constructor
                        · rfl
                        · rfl
                      replace z1 := z1.below b5
                      refine hK.out _ _ ⟨(below_cell b5 hHeld.1), (below_then hHeld.2 b5)⟩ (fun hHeld => ?_)
                      clear hK K
                      refine norm_ (a' := ?_) ?_ ?_
                      rotate_left
                      · show Act.put _ (some 74) _ = _
                        simp only [Act.put, List.setIfInBounds_toArray, List.set_cons_zero, List.set_cons_succ, i64_w, i32_w]
                        rfl
                      refine one_ (i := 2) (N := some 71) #[true, true, true, true, true, true, false, false, false] rfl rfl (by kernel_rfl) (by decide) (fun K hK => ?_)
                      refine goes_ Tryd.func11 (by kernel_rfl) rfl #[.slice (some ⟨_, 0, none⟩) key.size k1] (by rfl) rfl rfl (by simp only [List.map_toArray, List.map_cons, List.map_nil]; rfl) ?_
                      with_reducible refine ((HS1.out _ _ _ z1)).mono ?_
                      rintro e' wk2 ⟨rfl, b2⟩
                      refine ⟨_, rfl, ?_⟩
                      replace z5 := z5.below b2
                      refine hK.out _ _ ⟨(below_cell b2 hHeld.1), (below_then hHeld.2 b2)⟩ (fun hHeld => ?_)
                      clear hK K
                      refine norm_ (a' := ?_) ?_ ?_
                      rotate_left
                      · show Act.put _ (some 71) _ = _
                        simp only [Act.put, List.setIfInBounds_toArray, List.set_cons_zero, List.set_cons_succ, i64_w, i32_w]
                        rfl
                      exact norm_ (by simp only [putAll, Act.put, List.setIfInBounds_toArray, List.set_cons_zero, List.set_cons_succ]) (hCont (g1, k1, g5, k5) _ ⟨hHeld.1, hHeld.2, z5⟩)
                  · skip
                    obtain ⟨g5, k5, wk5, hr5, z5, b5⟩ := CVO.out _ hHeld.2
                    refine value_ (w1 := ?_) (v := ?_) (by rfl) rfl ?_ ?_
                    rotate_left 2
                    · go_simp
                      constructor
                      · rfl
                      · rfl
                    refine hK.out _ _ ⟨(below_cell b5 hHeld.1), (below_then hHeld.2 b5)⟩ (fun hHeld => ?_)
                    clear hK K
                    refine norm_ (a' := ?_) ?_ ?_
                    rotate_left
                    · show Act.put _ (some 74) _ = _
                      simp only [Act.put, List.setIfInBounds_toArray, List.set_cons_zero, List.set_cons_succ, i64_w, i32_w]
                      rfl
                    refine one_ (i := 1) (N := some 70) #[true, true, false, true, true, true, false, false, false] rfl rfl (by kernel_rfl) (by decide) (fun K hK => ?_)
                    obtain ⟨g1, k1, wk1, hr1, z1, b1⟩ := CVK.out _ hHeld.2
                    refine value_ (w1 := ?_) (v := ?_) (by rfl) rfl ?_ ?_
                    rotate_left 2
                    · go_simp
                      constructor
                      · rfl
                      · rfl
                    replace z5 := z5.below b1
                    refine hK.out _ _ ⟨(below_cell b1 hHeld.1), (below_then hHeld.2 b1)⟩ (fun hHeld => ?_)
                    clear hK K
                    refine norm_ (a' := ?_) ?_ ?_
                    rotate_left
                    · show Act.put _ (some 70) _ = _
                      simp only [Act.put, List.setIfInBounds_toArray, List.set_cons_zero, List.set_cons_succ, i64_w, i32_w]
                      rfl
                    refine one_ (i := 2) (N := some 71) #[true, true, true, true, true, true, false, false, false] rfl rfl (by kernel_rfl) (by decide) (fun K hK => ?_)
                    refine goes_ Tryd.func11 (by kernel_rfl) rfl #[.slice (some ⟨_, 0, none⟩) key.size k1] (by rfl) rfl rfl (by simp only [List.map_toArray, List.map_cons, List.map_nil]; rfl) ?_
                    with_reducible refine ((HS1.out _ _ _ z1)).mono ?_
                    rintro e' wk2 ⟨rfl, b2⟩
                    refine ⟨_, rfl, ?_⟩
                    replace z5 := z5.below b2
                    refine hK.out _ _ ⟨(below_cell b2 hHeld.1), (below_then hHeld.2 b2)⟩ (fun hHeld => ?_)
                    clear hK K
                    refine norm_ (a' := ?_) ?_ ?_
                    rotate_left
                    · show Act.put _ (some 71) _ = _
                      simp only [Act.put, List.setIfInBounds_toArray, List.set_cons_zero, List.set_cons_succ, i64_w, i32_w]
                      rfl
                    exact norm_ (by simp only [putAll, Act.put, List.setIfInBounds_toArray, List.set_cons_zero, List.set_cons_succ]) (hCont (g1, k1, g5, k5) _ ⟨hHeld.1, hHeld.2, z5⟩)
                rintro ⟨g1, k1, g5, k5⟩ wk5 ⟨hh1, hh2, z5⟩
                have hHeld : wk5.cell? ⟨S6, 2, none⟩ = some (.string ky) ∧ Below w4.heap.size w4 wk5 := ⟨hh1, hh2⟩
                refine norm_ (a' := ?_) ?_ ?_
                rotate_left
                · simp only [putAll, Act.put, List.setIfInBounds_toArray, List.set_cons_zero, List.set_cons_succ]
                  rfl
                refine one_ (i := 6) (N := some 75) #[true, true, true, true, true, true, true, false, false] rfl rfl (by kernel_rfl) (by decide) (fun K hK => ?_)
                refine goes_ Tryd.func11 (by kernel_rfl) rfl #[.slice (some ⟨g5, 0, none⟩) ky.size k5] (by rfl) rfl rfl (by simp only [List.map_toArray, List.map_cons, List.map_nil]; rfl) ?_
                with_reducible refine ((HS2.out _ _ _ z5)).mono ?_
                rintro e' w5 ⟨rfl, b6⟩
                refine ⟨_, rfl, ?_⟩
                refine hK.out _ _ ⟨(below_cell b6 hHeld.1), (below_then hHeld.2 b6)⟩ (fun hHeld => ?_)
                clear hK K
                refine norm_ (a' := ?_) ?_ ?_
                rotate_left
                · show Act.put _ (some 75) _ = _
                  simp only [Act.put, List.setIfInBounds_toArray, List.set_cons_zero, List.set_cons_succ, i64_w, i32_w]
                  rfl
                refine pure_ (i := 7) (N := some 15) (v := ?_) (a' := ?_) #[true, true, true, true, true, true, true, true, false] rfl rfl (by kernel_rfl) (fun _ _ _ h => h) (Or.inl ⟨by rfl, ?_⟩) ?_ ?_
                rotate_left
                · intro w'
                  go_simp
                  with_reducible rfl
                rotate_left
                · simp only [Act.put, List.setIfInBounds_toArray, List.set_cons_zero, List.set_cons_succ, i64_w, i32_w]
                  rfl
                refine pure_ (i := 8) (N := some 16) (v := ?_) (a' := ?_) #[true, true, true, true, true, true, true, true, true] rfl rfl (by kernel_rfl) (fun _ _ _ h => h) (Or.inl ⟨by rfl, ?_⟩) ?_ ?_
                rotate_left
                · intro w'
                  go_simp
                  with_reducible rfl
                rotate_left
                · simp only [Act.put, List.setIfInBounds_toArray, List.set_cons_zero, List.set_cons_succ, i64_w, i32_w]
                  rfl
                refine done_ (by kernel_rfl) ?_
                have b45 := hHeld.2
                have G65 := hid (below_heap b45 G6.out)
                replace BB := hid (below_then BB.out b45)
                clear hHeld b45 hh1 hh2 z5 b6 CVK CVO HS1 HS2 v0 v1 v2 v3 G6 B40
                obtain ⟨v0, v1, v2, v3, -, -, -, -⟩ := four G65.out
                go_wp2
                go_loopw [17] (fun v wr => v = .int .i64 0 ∧ w5 = wr) (fun v _ => 0)
                case atStart => exact ⟨rfl, rfl⟩
                case round =>
                  obtain ⟨rfl, rfl⟩ := hrel
                  by_cases hlt : 0 < ns
                  · have y0 : decide ((0 : Int) < (ns : Int)) = true := by simp; omega
                    go_wp2
                    go_ret
                    rw [E3.out]
                    exact ⟨rfl, BB.out⟩
                  · obtain rfl : ns = 0 := by omega
                    go_wp2
                    go_ret
                    rw [E3.out]
                    exact ⟨rfl, BB.out⟩
        · have z : r ≠ 0 := fun e => hrow (List.eq_nil_of_length_eq_zero (RR.out.1.trans e))
          have t2 : decide ((0 : Int) < (r : Int)) = true := by simp; omega
          have E3 := hid (show acceptB digest key row false p = false by rw [ET.out]; exact tells_false (.inl hrow))
          clear hrow
          go_wp2
          go_ret
          rw [E3.out]
          exact ⟨rfl, BB.out⟩
    · have t1 : (dt.toList == digest.toList) = false := by rw [str_beq]; exact decide_eq_false hd
      have E2 := EE.out
      rw [decide_eq_false hd, Bool.and_false] at E2
      have E3 := hid E2
      clear E2 EE hd
      go_wp2
      go_ret
      rw [E3.out]
      exact ⟨rfl, BB.out⟩
end Go.Proofs.YtcfjciencggflaaDoor

/- The walks of the law's link and steps. -/
namespace Go.Proofs.YtcfjciencggflaaDoor
open Go.RowKit PrintLast

def nullP : Prf := ⟨[], 0, ⟨#[]⟩, []⟩
theorem nullP_fits : Fits nullP := by refine ⟨by simp [nullP], by simp [nullP], by decide, by decide, by simp [nullP], fun _ => rfl, fun _ => rfl⟩
theorem fits_holds {p : Prf} (h : Fits p) : Holds p := by
  obtain ⟨h1, h2, h3, h4, h5, _⟩ := h
  exact ⟨by omega, by rw [sidesS_length _ h1]; omega, by omega, by omega⟩
theorem lay_length {last sum : ByteArray} {x : Prf} (hl : last.size = 32) (hs : sum.size = 32) (hx : Fits x) : (layB last sum x).length ≤ 100000 ∧ 64 ≤ (layB last sum x).length := by
  have l1 : last.data.toList.length = 32 := by simpa using hl
  have l2 : sum.data.toList.length = 32 := by simpa using hs
  obtain ⟨h1, h2, h3, h4, h5, _⟩ := hx
  unfold layB encB endS
  simp only [List.length_append, List.length_cons, numBytes_length, sidesS_length _ h1, l1, l2]
  have e : ∀ c : Prop, [Decidable c] → ∀ l : List UInt8, (if c then l else []).length ≤ l.length := by
    intro c _ l
    split <;> simp
  have q1 := e (x.kind = 2) (textS x.key.data.toList)
  have q2 := e (x.kind = 1 ∨ x.kind = 2) (textS x.row)
  rw [textS_length] at q1 q2
  have q3 : x.key.data.toList.length = x.key.size := by simp
  omega
theorem stepsP_lay {key last sum : ByteArray} {x : Prf} (hl : last.size = 32) (hs : sum.size = 32) (hx : Fits x) : stepsP key (layB last sum x) = some (stepsB key last sum x) := by
  unfold stepsP
  rw [readV_lay hl hs hx]
  rfl

set_option maxRecDepth 100000 in
set_option maxHeartbeats 6400000 in
theorem vlink_any {w : World} (hT : Table w) : Calls Tryd.prog 9 #[] w fun e w' => e = .returned (.bool true) ∧ Below w.heap.size w w' := by
  have TT := hid hT
  have HC := hid (rsum_dig (w := w) (n := 0) (p := []) rfl (BSA.nil w) (by decide))
  obtain ⟨D, hD⟩ : ∃ D, D = dig [] := ⟨_, rfl⟩
  have Dz : D.size = 32 := by rw [hD]; exact dig_size _
  rw [← hD] at HC
  have HDZ := hid Dz
  clear hT hD Dz
  go_enter Tryd.func9, Tryd.ntmps9
  go_wp2_with fail
  refine HC.out.mono ?_
  rintro e w1 ⟨rfl, b1⟩
  replace TT := hid (TT.out.below b1)
  have BB := hid b1
  obtain ⟨N1, hN1⟩ : ∃ N1, N1 = (layB D D nullP).length := ⟨_, rfl⟩
  have hl := lay_length HDZ.out HDZ.out nullP_fits
  rw [← hN1] at hl
  have HL : Hid (Calls Tryd.prog 24 #[.string D, .string D, .agg #[.slice none 0 0, .int .u8 0, .string ⟨#[]⟩, .slice none 0 0]] w1 fun e w' => ∃ A' c', e = .returned (.slice A' N1 c') ∧ Row w' w1.heap.size A' c' (layB D D nullP) ∧ Below w1.heap.size w1 w') := hid (by
    have h := lay_any (w := w1) (A := none) (B := none) (c := 0) (d := 0) (k := 0) (m := 0) (p := nullP) (last := D) (sum := D) (by rw [HDZ.out]; decide) (by rw [HDZ.out]; decide) ⟨rfl, rfl, by decide, TxtAt.nil w1, BSA.nil w1⟩ (fits_holds nullP_fits) (by rw [← hN1]; omega)
    rw [hN1]
    exact h)
  have HN1 := hid (And.intro hN1.symm hl)
  clear HC b1 hl hN1
  go_wp2_with fail
  refine HL.out.mono ?_
  rintro e w2 ⟨A2, c2, rfl, r2, b2⟩
  replace TT := hid (TT.out.below b2)
  replace BB := hid (below_then BB.out b2)
  have HS := hid (psteps_any (key := ⟨#[120]⟩) TT.out HN1.out.1 r2.bsa (by have := HN1.out.2.1; omega) (by decide))
  rw [stepsP_lay HDZ.out HDZ.out nullP_fits] at HS
  clear HL r2 b2
  go_wp2_with fail
  refine HS.out.mono ?_
  rintro e w3 ⟨R, N, c3, ok, ps, rfl, HP, L3, b3⟩
  replace BB := hid (below_then BB.out b3)
  obtain ⟨q1, q2, q3⟩ := HP.out
  obtain rfl : ok = true := q2
  have e2 : txs ps = [linkB D.data.toList (sum256 [0]) D.data.toList, [0]] := q3
  have n2 : N = 2 := by
    have := congrArg List.length e2
    rw [txs_length, q1] at this
    exact this
  subst n2
  match ps, q1, e2, L3 with
  | [x, y], q1, e2, L3 =>
    obtain ⟨g, rfl⟩ := L3.place (by simp)
    have c0 := L3.cell 0 (by simp)
    have c1 := L3.cell 1 (by simp)
    have t0 : x.2.2.length = 97 := by
      have : x.2.2 = linkB D.data.toList (sum256 [0]) D.data.toList := by simpa [txs] using (List.cons.inj e2).1
      rw [this]
      exact (linkB_at [0] HDZ.out HDZ.out).2
    have t1 : y.2.2 = [0] := by
      have := (List.cons.inj e2).2
      simpa [txs] using this
    have y1 : y.2.2.length = 1 := by rw [t1]; rfl
    have e1 : BSA w3 y.1 y.2.1 [0] := by rw [← t1]; exact L3.elem 1 (by simp)
    obtain ⟨a0, m0, d0, hv0⟩ : ∃ a m c, x.1 = a ∧ x.2.2.length = m ∧ x.2.1 = c := ⟨_, _, _, rfl, rfl, rfl⟩
    obtain ⟨a1, m1, d1, hv1⟩ : ∃ a m c, y.1 = a ∧ y.2.2.length = m ∧ y.2.1 = c := ⟨_, _, _, rfl, rfl, rfl⟩
    have p0 : partV x = .slice a0 97 d0 := by unfold partV; rw [hv0.1, t0, hv0.2.2]
    have p1 : partV y = .slice a1 1 d1 := by unfold partV; rw [hv1.1, y1, hv1.2.2]
    rw [hv1.1, hv1.2.2] at e1
    have c0' : w3.cell? ⟨g, 0, none⟩ = some (.slice a0 97 d0) := by rw [← p0]; exact c0
    have c1' : w3.cell? ⟨g, 1, none⟩ = some (.slice a1 1 d1) := by rw [← p1]; exact c1
    have al := below_alloc (Below.refl _ w3) (.cells (bytesV [0]).toArray 5)
    have HB := hid (bytes_n (w := w3.alloc (.cells (bytesV [0]).toArray 5)) (n := 1) (m := 1) rfl rfl (e1.below al) (lits_row w3 (Nat.zero_le _) [0] (by decide)).bsa)
    replace BB := hid (below_then BB.out al)
    clear c0 c1 t0 t1 y1 e1 hv0 hv1 p0 p1 al q1 q3 e2 L3 HS b3 HP
    go_wp2_with fail
    refine HB.out.mono ?_
    rintro e w4 ⟨rfl, b4⟩
    have BF := below_then BB.out b4
    go_wp2
    go_ret
    exact ⟨by simp, BF⟩

set_option maxRecDepth 100000 in
set_option maxHeartbeats 6400000 in
/-- The two Steps answer the same. -/
theorem vsteps_any {w : World} (hT : Table w) {A : Option Addr} {c n : Nat} {p : List UInt8} {key : ByteArray} (hn : p.length = n) (hp : BSA w A c p) (hb : n ≤ 1000000) (hk : key.size ≤ 60000) :
    Calls Tryd.prog 14 #[.string key, .slice A n c] w fun e w' => e = .returned (.bool true) ∧ Below w.heap.size w w' := by
  have H1 := hid (psteps_any (key := key) hT hn hp hb hk)
  have PP := hid (And.intro hn hp)
  clear hT hn hp
  go_enter Tryd.func14, Tryd.ntmps14
  go_wp2_with fail
  refine H1.out.mono ?_
  rintro e w1 ⟨R1, N1, c1, ok1, ps, rfl, HP, L1, b1⟩
  have H2 := hid (rsteps_any (key := key) PP.out.1 (PP.out.2.below b1) hb hk)
  have BB := hid b1
  have LA := hid L1
  clear H1 b1 L1
  go_wp2_with fail
  refine H2.out.mono ?_
  rintro e w2 ⟨R2, N2, c2, ok2, qs, rfl, HQ, L2, b2⟩
  replace BB := hid (below_then BB.out b2)
  obtain ⟨p1, p2, p3⟩ := HP.out
  obtain ⟨q1, q2, q3⟩ := HQ.out
  have eo : ok1 = ok2 := p2.trans q2.symm
  have et : txs ps = txs qs := p3.trans q3.symm
  have eN : N1 = N2 := by
    have := congrArg List.length et
    rw [txs_length, txs_length, p1, q1] at this
    exact this
  subst eo eN
  have LL := hid (And.intro (LA.out.below b2) (And.intro L2 (And.intro p1 (And.intro q1 et))))
  have hN9 : N1 ≤ 9223372036854775807 := by rw [← p1]; have := LA.out.cap; unfold maxLen at this; omega
  have tt : (ok1 != ok1) = false := by cases ok1 <;> rfl
  clear H2 b2 L2 p1 p2 p3 q1 q2 q3 et LA HP HQ
  go_wp2
  go_loopw [9] (fun v wr => ∃ k : Nat, k ≤ N1 ∧ v = .int .i64 (k : Int) ∧ Hid (Below w2.heap.size w2 wr)) (fun v _ => N1 - (intOf v).toNat)
  case atStart => exact ⟨0, Nat.zero_le _, rfl, hid (Below.refl _ _)⟩
  case round =>
    obtain ⟨k, hk, rfl, hB⟩ := hrel
    by_cases hlt : k < N1
    · obtain ⟨l1, l2, p1, q1, et⟩ := LL.out
      have k1 : k < ps.length := by rw [p1]; exact hlt
      have k2 : k < qs.length := by rw [q1]; exact hlt
      obtain ⟨g1, rfl⟩ := l1.place (by omega)
      obtain ⟨g2, rfl⟩ := l2.place (by omega)
      have ca := (l1.below hB.out).cell k k1
      have cb := (l2.below hB.out).cell k k2
      have ea := (l1.below hB.out).elem k k1
      have eb := (l2.below hB.out).elem k k2
      have tx : (ps[k]).2.2 = (qs[k]).2.2 := by
        have h1 : (txs ps)[k]? = some (ps[k]).2.2 := by unfold txs; rw [List.getElem?_map, List.getElem?_eq_getElem k1]; rfl
        have h2 : (txs qs)[k]? = some (qs[k]).2.2 := by unfold txs; rw [List.getElem?_map, List.getElem?_eq_getElem k2]; rfl
        rw [et, h2] at h1
        exact (Option.some.inj h1).symm
      obtain ⟨a1, m1, d1, hv1, x1⟩ : ∃ a m c, partV ps[k] = .slice a m c ∧ (ps[k]).1 = a ∧ (ps[k]).2.2.length = m ∧ (ps[k]).2.1 = c := ⟨_, _, _, rfl, rfl, rfl, rfl⟩
      obtain ⟨a2, m2, d2, hv2, x2⟩ : ∃ a m c, partV qs[k] = .slice a m c ∧ (qs[k]).1 = a ∧ (qs[k]).2.2.length = m ∧ (qs[k]).2.1 = c := ⟨_, _, _, rfl, rfl, rfl, rfl⟩
      rw [hv1] at ca
      rw [hv2] at cb
      rw [x1.1, x1.2.2] at ea
      rw [x2.1, x2.2.2] at eb
      have HC : Hid (Calls Tryd.prog 22 #[.slice a1 m1 d1, .slice a2 m2 d2] wr.drew fun e w' => e = .returned (.bool true) ∧ Below wr.drew.heap.size wr.drew w') := hid (by
        have h := bytes_n (w := wr.drew) x1.2.1 x2.2.1 (show BSA wr.drew a1 d1 _ from ea) (show BSA wr.drew a2 d2 _ from eb)
        rw [decide_eq_true tx] at h
        exact h)
      have i1 := eq_true (show (k : Int) < (N1 : Int) by omega)
      clear l1 l2 p1 q1 et ea eb tx hv1 x1 hv2 x2 k1 k2
      go_wp2
      refine start_ (n := 10) (S := fun w' => w'.cell? ⟨g1, k, none⟩ = some (.slice a1 m1 d1) ∧ w'.cell? ⟨g2, k, none⟩ = some (.slice a2 m2 d2)) (ds := []) #[false, false, false, false, false, false, false, false, false, false] (by kernel_rfl) rfl rfl ⟨ca, cb⟩ (fun hHeld => ?_)
      refine pure_ (i := 0) (N := some 38) (v := ?_) (a' := ?_) #[true, false, false, false, false, false, false, false, false, false] rfl rfl (by kernel_rfl) (fun _ _ _ h => h) (Or.inl ⟨by rfl, ?_⟩) ?_ ?_
      rotate_left
      · intro w'
        go_simp
        with_reducible rfl
      rotate_left
      · simp only [Act.put, List.setIfInBounds_toArray, List.set_cons_zero, List.set_cons_succ, i64_w, i32_w]
        rfl
      refine pure_ (i := 1) (N := some 39) (v := ?_) (a' := ?_) #[true, true, false, false, false, false, false, false, false, false] rfl rfl (by kernel_rfl) (fun _ _ _ h => h) (Or.inl ⟨by rfl, ?_⟩) ?_ ?_
      rotate_left
      · intro w'
        go_simp
        with_reducible rfl
      rotate_left
      · simp only [Act.put, List.setIfInBounds_toArray, List.set_cons_zero, List.set_cons_succ, i64_w, i32_w]
        rfl
      refine pure_ (i := 2) (N := some 40) (v := ?_) (a' := ?_) #[true, true, true, false, false, false, false, false, false, false] rfl rfl (by kernel_rfl) (fun _ _ _ h => h) (Or.inl ⟨by rfl, ?_⟩) ?_ ?_
      rotate_left
      · intro w'
        go_simp
        with_reducible rfl
      rotate_left
      · simp only [Act.put, List.setIfInBounds_toArray, List.set_cons_zero, List.set_cons_succ, i64_w, i32_w]
        rfl
      refine pure_ (i := 4) (N := some 42) (v := ?_) (a' := ?_) #[true, true, true, false, true, false, false, false, false, false] rfl rfl (by kernel_rfl) (fun _ _ _ h => h) (Or.inl ⟨by rfl, ?_⟩) ?_ ?_
      rotate_left
      · intro w'
        go_simp
        with_reducible rfl
      rotate_left
      · simp only [Act.put, List.setIfInBounds_toArray, List.set_cons_zero, List.set_cons_succ, i64_w, i32_w]
        rfl
      refine pure_ (i := 5) (N := some 43) (v := ?_) (a' := ?_) #[true, true, true, false, true, true, false, false, false, false] rfl rfl (by kernel_rfl) (fun _ _ _ h => h) (Or.inl ⟨by rfl, ?_⟩) ?_ ?_
      rotate_left
      · intro w'
        go_simp
        with_reducible rfl
      rotate_left
      · simp only [Act.put, List.setIfInBounds_toArray, List.set_cons_zero, List.set_cons_succ, i64_w, i32_w]
        rfl
      refine pure_ (i := 6) (N := some 44) (v := ?_) (a' := ?_) #[true, true, true, false, true, true, true, false, false, false] rfl rfl (by kernel_rfl) (fun _ _ _ h => h) (Or.inl ⟨by rfl, ?_⟩) ?_ ?_
      rotate_left
      · intro w'
        go_simp
        with_reducible rfl
      rotate_left
      · simp only [Act.put, List.setIfInBounds_toArray, List.set_cons_zero, List.set_cons_succ, i64_w, i32_w]
        rfl
      refine take_ (i := 3) (N := some 41) (v := ?_) (a' := ?_) #[true, true, true, true, true, true, true, false, false, false] rfl rfl (by kernel_rfl) (fun _ _ _ h => h) (Or.inl ⟨by rfl, ?_⟩) hHeld ?_ ?_
      rotate_left
      · rintro w' ⟨s0, s1⟩
        go_simp
        with_reducible rfl
      rotate_left
      · simp only [Act.put, List.setIfInBounds_toArray, List.set_cons_zero, List.set_cons_succ, i64_w, i32_w]
        rfl
      refine take_ (i := 7) (N := some 45) (v := ?_) (a' := ?_) #[true, true, true, true, true, true, true, true, false, false] rfl rfl (by kernel_rfl) (fun _ _ _ h => h) (Or.inl ⟨by rfl, ?_⟩) hHeld ?_ ?_
      rotate_left
      · rintro w' ⟨s0, s1⟩
        go_simp
        with_reducible rfl
      rotate_left
      · simp only [Act.put, List.setIfInBounds_toArray, List.set_cons_zero, List.set_cons_succ, i64_w, i32_w]
        rfl
      refine one_ (i := 8) (N := some 46) #[true, true, true, true, true, true, true, true, true, false] rfl rfl (by kernel_rfl) (by decide) (fun K hK => ?_)
      refine goes_ Tryd.func22 (by kernel_rfl) rfl #[.slice a1 m1 d1, .slice a2 m2 d2] (by rfl) rfl rfl (by simp only [List.map_toArray, List.map_cons, List.map_nil]; rfl) ?_
      with_reducible refine (HC.out).mono ?_
      rintro e' w3 ⟨rfl, b3⟩
      refine ⟨_, rfl, ?_⟩
      refine hK.out _ _ ⟨(below_cell b3 hHeld.1), (below_cell b3 hHeld.2)⟩ (fun hHeld => ?_)
      clear hK K
      refine norm_ (a' := ?_) ?_ ?_
      rotate_left
      · show Act.put _ (some 46) _ = _
        simp only [Act.put, List.setIfInBounds_toArray, List.set_cons_zero, List.set_cons_succ, i64_w, i32_w]
        rfl
      refine pure_ (i := 9) (N := some 47) (v := ?_) (a' := ?_) #[true, true, true, true, true, true, true, true, true, true] rfl rfl (by kernel_rfl) (fun _ _ _ h => h) (Or.inl ⟨by rfl, ?_⟩) ?_ ?_
      rotate_left
      · intro w'
        go_simp
        with_reducible rfl
      rotate_left
      · simp only [Act.put, List.setIfInBounds_toArray, List.set_cons_zero, List.set_cons_succ, i64_w, i32_w]
        rfl
      refine done_ (by kernel_rfl) ?_
      have B3 := hid (hB.out.drew.trans ((b3.mono (show w2.heap.size ≤ wr.drew.heap.size from hB.out.size))))
      clear b3 HC i1 ca cb
      go_wp2
      go_roundw
      case rel => exact ⟨k + 1, hlt, by go_num, B3⟩
      case measure => simp [intOf]; omega
    · obtain rfl : k = N1 := by omega
      go_wp2
      go_ret
      exact ⟨rfl, below_then BB.out hB.out⟩
end Go.Proofs.YtcfjciencggflaaDoor
