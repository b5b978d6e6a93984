/- VerifySteps: each step's sum stands in the one ahead of it; the first one's is the digest. -/
import Derived.Test.YtcfjciencggflaaDoorV6
import Derived.Test.YtcfjciencggflaaDoorVLong
set_option linter.unusedVariables false
set_option linter.unusedSimpArgs false
namespace Go.Proofs.YtcfjciencggflaaDoor
open Go.RowKit PrintLast

theorem res_lay {last sum : ByteArray} {x : Prf} (hl : last.size = 32) (hs : sum.size = 32) (hx : Fits x) : resB ((layB last sum x).drop 64) = (0, x) := by
  have l1 : last.data.toList.length = 32 := by simpa using hl
  have l2 : sum.data.toList.length = 32 := by simpa using hs
  have e1 : (layB last sum x).drop 64 = encB x := by
    unfold layB
    rw [List.drop_append_of_le_length (by rw [List.length_append]; omega), List.drop_of_length_le (by rw [List.length_append]; omega)]; rfl
  unfold resB
  rw [e1, decB_enc x hx]
/-- The steps' texts, one by one. -/
theorem steps_get {key last sum : ByteArray} {x : Prf} (hl : last.size = 32) (hs : sum.size = 32) (hx : Fits x) :
    (∃ t0 t1, (stepsB key last sum x)[0]? = some t0 ∧ (stepsB key last sum x)[1]? = some t1 ∧ t0.length = 97 ∧ (t0.drop 33).take 32 = sum256 t1) ∧
    ∀ k, k < x.side.length → ∃ t u, (stepsB key last sum x)[k + 1]? = some t ∧ (stepsB key last sum x)[k + 2]? = some u ∧ t.length = 65 ∧ (t.drop (if bitOf (pathK key) (k : Int) = 1 then 33 else 1)).take 32 = sum256 u := by
  constructor
  · obtain ⟨r, hr⟩ := wayS_top (pathK key) (endD key x) 0 x.side
    refine ⟨_, topS (pathK key) (endD key x) 0 x.side, rfl, ?_, (linkB_at _ hl hs).2, (linkB_at _ hl hs).1⟩
    unfold stepsB
    rw [List.getElem?_cons_succ, hr]
    rfl
  · intro k hk
    obtain ⟨h1, h2⟩ := wayS_get (pathK key) (endD key x) x.side 0 k hk
    rw [Nat.zero_add] at h1 h2
    refine ⟨_, _, h1, h2, stepU_length _ _ _ _ (hx.1 _ (List.getElem_mem hk)), stepU_at _ _ _ _ (hx.1 _ (List.getElem_mem hk))⟩

set_option maxRecDepth 100000 in
set_option maxHeartbeats 25600000 in
theorem vlsteps_walk {w : World} (hT : Table w) {A C : Option Addr} {cap c : Nat} {l : List PAct} {u' : Int} {seed : List UInt8} (h0 : l.length ≤ cap ∧ cap ≤ maxLen ∧ PActsAt w A l) (hu : (Lit.int .u8 u').wf = true) (hs : BSA w C c seed) :
    Calls Tryd.prog 4 #[.slice A l.length cap, .int .u8 u', .slice C seed.length c] w fun e w' => e = .returned (.bool true) ∧ Below w.heap.size w w' := by
  obtain ⟨u, rfl⟩ : ∃ b8 : UInt8, u' = (b8.toNat : Int) := ⟨UInt8.ofNat u'.toNat, (u8_of_int hu).symm⟩
  obtain ⟨n, hn⟩ : ∃ n, n = l.length := ⟨_, rfl⟩
  obtain ⟨r, hr⟩ : ∃ r, r = seed.length := ⟨_, rfl⟩
  rw [← hn] at h0 ⊢
  rw [← hr]
  have r9 : r ≤ 9223372036854775807 := by rw [hr]; exact hs.le
  have HN := hid hn.symm
  have HC := hid (And.intro h0.1 h0.2.1)
  have AA := hid h0.2.2
  have SL := hid hr.symm
  have SB := hid hs
  have TT := hid hT
  have BB := hid (Below.refl w.heap.size w)
  clear hn hr hT h0 hu hs
  by_cases hsm : SmallL l
  · have hd : decide (SmallL l) = true := by simp [hsm]
    have SM := hid hsm
    have HD := hid hd
    clear hsm hd
    by_cases hg : 20 < r
    · have t1 : decide ((20 : Int) < (r : Int)) = true := by simp; omega
      clear hg
      go_enter Tryd.func4, Tryd.ntmps4
      have HC1 := hid (vlink_any TT.out)
      go_wp2_with fail
      refine HC1.out.mono ?_
      rintro e w1 ⟨rfl, b1⟩
      clear HC1
      replace TT := hid (TT.out.below b1)
      replace AA := hid (AA.out.below b1)
      replace SB := hid (SB.out.below b1)
      replace BB := hid (below_then BB.out b1)
      clear b1
      have S0 := small_any HN.out AA.out HC.out.1 HC.out.2
      rw [HD.out] at S0
      have S1 := hid S0
      clear S0
      go_wp2_with fail
      refine S1.out.mono ?_
      rintro e w2 ⟨rfl, rfl⟩
      clear S1
      have HC2 := hid (vlink_any TT.out)
      go_wp2_with fail
      refine HC2.out.mono ?_
      rintro e w3 ⟨rfl, b3⟩
      clear HC2
      replace TT := hid (TT.out.below b3)
      replace AA := hid (AA.out.below b3)
      replace SB := hid (SB.out.below b3)
      replace BB := hid (below_then BB.out b3)
      clear b3
      go_wp2
      go_ret
      exact ⟨rfl, BB.out⟩
    · have t1 : decide ((20 : Int) < (r : Int)) = false := by simp; omega
      have R20 : r ≤ 20 := by omega
      clear hg
      go_enter Tryd.func4, Tryd.ntmps4
      have HC1 := hid (vlink_any TT.out)
      go_wp2_with fail
      refine HC1.out.mono ?_
      rintro e w1 ⟨rfl, b1⟩
      clear HC1
      replace TT := hid (TT.out.below b1)
      replace AA := hid (AA.out.below b1)
      replace SB := hid (SB.out.below b1)
      replace BB := hid (below_then BB.out b1)
      clear b1
      have S0 := small_any HN.out AA.out HC.out.1 HC.out.2
      rw [HD.out] at S0
      have S1 := hid S0
      clear S0
      go_wp2_with fail
      refine S1.out.mono ?_
      rintro e w2 ⟨rfl, rfl⟩
      clear S1
      obtain ⟨kb, hkb⟩ : ∃ kb : UInt8, kb = u % 26 := ⟨_, rfl⟩
      have e1 : (u.toNat : Int) % 26 = (kb.toNat : Int) := by rw [hkb, UInt8.toNat_mod]; rfl
      have cv := key_conv w1 kb
      have al := below_alloc (Below.refl _ w1) (.cells #[.int .u8 107, .int .u8 (kb.toNat : Int)] 5)
      clear hkb
      replace TT := hid (TT.out.below al)
      replace AA := hid (AA.out.below al)
      replace SB := hid (SB.out.below al)
      replace BB := hid (below_then BB.out al)
      clear al
      go_upto_region 4 with fail
      generalize w1.alloc (.cells #[.int .u8 107, .int .u8 (kb.toNat : Int)] 5) = w4 at *
      clear cv e1
      obtain ⟨k1, hk1⟩ : ∃ k1, k1 = key2 kb := ⟨_, rfl⟩
      have KBk1 := hid (show k1.size ≤ 60000 by rw [hk1, key2_size]; omega)
      rw [← hk1]
      clear hk1
      have HC2 := hid (shown_any (key := k1) TT.out HN.out AA.out HC.out.1 SM.out KBk1.out SL.out SB.out (by omega))
      go_wp2_with fail
      refine HC2.out.mono ?_
      rintro e w5 ⟨d, RA, rm, rc, PA, n0, pk, ok, ll, row, rfl, SH, b5⟩
      clear HC2
      replace TT := hid (TT.out.below b5)
      replace AA := hid (AA.out.below b5)
      replace SB := hid (SB.out.below b5)
      replace BB := hid (below_then BB.out b5)
      clear b5
      clear AA SB
      obtain ⟨P, hP⟩ : ∃ P, P = layB (dig seed) (dig (seed ++ [1])) (buildT (treeF 256 ll) k1) := ⟨_, rfl⟩
      have NB := hid (show n0 ≤ 1000000 by rw [← SH.out.2.2.2.2.2.1]; have := (lay_length (dig_size seed) (dig_size (seed ++ [1])) (built_fits SH.out.1 k1)).1; omega)
      have ACC := hid (SH.out.acc)
      have PL := hid SH.out.2.2.2.2.2.1
      have PB := hid SH.out.2.2.2.2.2.2.1
      rw [← hP] at ACC PL PB
      have RL := hid SH.out.2.1
      have RB := hid SH.out.2.2.1
      have HP := hid hP
      clear hP
      have N64 := hid (show 64 ≤ n0 by rw [← SH.out.2.2.2.2.2.1]; exact (lay_length (dig_size seed) (dig_size (seed ++ [1])) (built_fits SH.out.1 k1)).2)
      obtain ⟨X, hX⟩ : ∃ X, X = buildT (treeF 256 ll) k1 := ⟨_, rfl⟩
      have FX := hid (built_fits SH.out.1 k1)
      have TOP := hid (built_top (treeF 256 ll) k1)
      have SP := hid (stepsP_lay (key := k1) (dig_size seed) (dig_size (seed ++ [1])) (built_fits SH.out.1 k1))
      have RS := hid (res_lay (dig_size seed) (dig_size (seed ++ [1])) (built_fits SH.out.1 k1))
      have DD := hid SH.out.2.2.2.2.2.2.2
      rw [← HP.out] at SP RS
      rw [← hX] at FX SP RS TOP
      clear hX
      clear SH
      have HC3 := hid (psteps_any (key := k1) TT.out PL.out PB.out NB.out KBk1.out)
      go_wp2_with fail
      refine HC3.out.mono ?_
      rintro e w6 ⟨R, N, c1, sok, ps, rfl, HV, L6, b6⟩
      clear HC3
      replace TT := hid (TT.out.below b6)
      replace PB := hid (PB.out.below b6)
      replace RB := hid (RB.out.below b6)
      replace BB := hid (below_then BB.out b6)
      have LL := hid L6
      clear L6 b6
      obtain ⟨q1, q2, q3⟩ := HV.out
      rw [SP.out] at q2 q3
      obtain rfl : sok = true := q2
      have q3' : txs ps = stepsB k1 (dig seed) (dig (seed ++ [1])) X := q3
      obtain ⟨ns, hns⟩ : ∃ ns, ns = X.side.length := ⟨_, rfl⟩
      have hN : N = ns + 2 := by rw [← q1, ← txs_length, q3', stepsB_length, hns]
      subst hN
      have HNS := hid (And.intro hns (show ns ≤ 256 by rw [hns]; exact FX.out.2.1))
      have ns6 : ns ≤ 256 := HNS.out.2
      have PS := hid (And.intro q1 q3')
      obtain ⟨A3, c3, cr1, cb1, cl1⟩ := cut_from (kk := 64) (k := 64) rfl PL.out PB.out N64.out (by have := N64.out; omega)
      obtain ⟨M0, hM⟩ : ∃ M0, M0 = n0 - 64 := ⟨_, rfl⟩
      rw [← hM] at cr1 cl1
      have HDC := hid (rdec_any cl1 (cb1 _ PB.out) (by have := NB.out; omega))
      have nb9 : n0 ≤ 1000000 := NB.out
      have n64 : 64 ≤ n0 := N64.out
      clear q1 q3 q3' hns cb1 cl1 hM HV
      go_wp2_with fail
      refine HDC.out.mono ?_
      rintro e w7 ⟨A4, c4, B4, d4, rfl, x4, r4, b7⟩
      rw [RS.out] at x4 r4 ⊢
      replace TT := hid (TT.out.below b7)
      replace PB := hid (PB.out.below b7)
      replace RB := hid (RB.out.below b7)
      replace LL := hid (LL.out.below b7)
      replace BB := hid (below_then BB.out b7)
      unfold prfV
      obtain ⟨m9, hm9⟩ : ∃ m9, m9 = X.row.length := ⟨_, rfl⟩
      obtain ⟨kd, hkd⟩ : ∃ kd : Int, kd = (X.kind.toNat : Int) := ⟨_, rfl⟩
      obtain ⟨ky, hky⟩ : ∃ ky, ky = X.key := ⟨_, rfl⟩
      simp only [← HNS.out.1, ← hm9, ← hkd, ← hky]
      rw [show ((0 : Nat) : Int) = 0 from rfl]
      obtain ⟨S14, hS14⟩ : ∃ S, S = w7.heap.size := ⟨_, rfl⟩
      have g14 := heap_alloc_new w7 (.cells #[.slice A4 ns c4, .int .u8 kd, .string ky, .slice B4 m9 d4] 36)
      have al := below_alloc (Below.refl _ w7) (.cells #[.slice A4 ns c4, .int .u8 kd, .string ky, .slice B4 m9 d4] 36)
      rw [← hS14] at g14
      have HS14 := hid hS14
      replace TT := hid (TT.out.below al)
      replace PB := hid (PB.out.below al)
      replace RB := hid (RB.out.below al)
      replace LL := hid (LL.out.below al)
      replace BB := hid (below_then BB.out al)
      clear al b7 HDC x4 r4 hm9 hkd hky hS14 cr1
      go_upto_region 7 with fail
      rw [← HS14.out]
      generalize w7.alloc (.cells #[.slice A4 ns c4, .int .u8 kd, .string ky, .slice B4 m9 d4] 36) = w9 at *
      obtain ⟨v0, -, -, -, -, -, -, -⟩ := four g14
      obtain ⟨⟨x0, x1, ex0, ex1, x97, xs⟩, EACH⟩ := steps_get (key := k1) (last := dig seed) (sum := dig (seed ++ [1])) (dig_size _) (dig_size _) FX.out
      have EA := hid EACH
      have k0 : 0 < ps.length := by rw [PS.out.1]; omega
      have k1' : 1 < ps.length := by rw [PS.out.1]; omega
      obtain ⟨g, a0, m0, d0, y0, rfl, p0, z0, ym0, ey0⟩ := LL.out.pick k0
      obtain ⟨g', a1, m1, d1, y1, eg, p1, z1, ym1, ey1⟩ := LL.out.pick k1'
      cases eg
      rw [PS.out.2] at ey0 ey1
      obtain rfl : y0 = x0 := Option.some.inj (ey0.symm.trans ex0)
      obtain rfl : y1 = x1 := Option.some.inj (ey1.symm.trans ex1)
      obtain rfl : m0 = 97 := ym0.symm.trans x97
      have long := steps_long KBk1.out SP.out
      have yl1 : y1.length ≤ 200000 := long y1 (List.mem_of_getElem? ex1)
      have LONG := hid long
      have HEAD : dig y0 = d := by
        have h0 : y0 = linkB (dig seed).data.toList (sum256 (topS (pathK k1) (endD k1 X) 0 X.side)) (dig (seed ++ [1])).data.toList := (Option.some.inj ex0).symm
        rw [h0, TOP.out, DD.out]
      obtain ⟨D1, hD1⟩ : ∃ D1, D1 = dig y1 := ⟨_, rfl⟩
      obtain ⟨A90, c90, cr, cb, cl⟩ := cut_mid (kk := 33) (hh := 65) (k := 33) (h := 65) rfl rfl x97 z0 (by omega) (by omega) (by omega)
      have cr' : ∀ w' : World, (Instr.slice 22 (.slice a0 97 d0) (some (.int .i64 33)) (some (.int .i64 65)) none).run Tryd.prog w' = .ok (.slice A90 32 c90) w' := cr
      have D1e : strB ((y0.drop 33).take 32) = D1 := by rw [xs, hD1]; rfl
      have Z0 := hid z0
      have Z1 := hid z1
      have CV : Hid (∀ w', Below w9.heap.size w9 w' → (convert 22 9 (.slice A90 32 c90)).run Tryd.prog w' = .ok (.string D1) w') := hid (fun w' hb' => by
        have h := conv_any (n := 32) cl (cb w' (Z0.out.below hb'))
        rw [show ((y0.drop 33).take (65 - 33)) = (y0.drop 33).take 32 from rfl, D1e] at h
        exact h)
      have SX0 : Hid (∀ w' : World, Below w9.heap.size w9 w' → Calls Tryd.prog 11 #[.slice a0 97 d0] w' fun e w'' => e = .returned (.string d) ∧ Below w'.heap.size w' w'') := hid (fun w' hb' => by rw [← HEAD]; exact rsum_dig x97 (Z0.out.below hb') (by omega))
      have SX1 : Hid (∀ w' : World, Below w9.heap.size w9 w' → Calls Tryd.prog 11 #[.slice a1 m1 d1] w' fun e w'' => e = .returned (.string D1) ∧ Below w'.heap.size w' w'') := hid (fun w' hb' => by rw [hD1]; exact rsum_dig ym1 (Z1.out.below hb') (by omega))
      have wN : wrap64 ((ns : Int) + 2) = (ns : Int) + 2 := wrap64_is _ (by omega)
      have i0 := eq_true (show (0 : Int) < (ns : Int) + 2 by omega)
      have i1 := eq_true (show (1 : Int) < (ns : Int) + 2 by omega)
      have t9 : (d.toList != d.toList) = false := by unfold bne; rw [beq_self_eq_true]; rfl
      have t8 : (D1.toList != D1.toList) = false := by unfold bne; rw [beq_self_eq_true]; rfl
      clear cr k0 k1' z0 z1 ym0 ym1 ey0 ey1 ex0 ex1 x97 xs long yl1 HEAD hD1 D1e EACH cb cl g14
      go_wp2
      refine start_ (n := 42) (S := fun w' => w'.cell? ⟨S14, 0, none⟩ = some (.slice A4 ns c4) ∧ w'.cell? ⟨g, 0, none⟩ = some (.slice a0 97 d0) ∧ w'.cell? ⟨g, 1, none⟩ = some (.slice a1 m1 d1) ∧ (convert 22 9 (.slice A90 32 c90)).run Tryd.prog w' = .ok (.string D1) w' ∧ Below w9.heap.size w9 w') (ds := []) #[false, false, false, false, false, false, false, false, false, false, false, false, false, false, false, false, false, false, false, false, false, false, false, false, false, false, false, false, false, false, false, false, false, false, false, false, false, false, false, false, false, false] (by kernel_rfl) rfl rfl ⟨v0, p0, p1, (CV.out _ (Below.refl w9.heap.size w9).drew), (Below.refl w9.heap.size w9).drew⟩ (fun hHeld => ?_)
      refine pure_ (i := 0) (N := some 56) (v := ?_) (a' := ?_) #[true, false, false, false, false, false, false, false, false, false, false, false, false, false, false, false, false, false, false, false, false, false, false, false, false, false, false, false, false, false, false, false, false, false, false, false, false, false, false, false, false, false] rfl rfl (by kernel_rfl) (fun _ _ _ h => h) (Or.inl ⟨by rfl, ?_⟩) ?_ ?_
      rotate_left
      · intro w'
        go_simp
        with_reducible rfl
      rotate_left
      · simp only [Act.put, List.setIfInBounds_toArray, List.set_cons_zero, List.set_cons_succ, i64_w, i32_w]
        rfl
      refine pure_ (i := 1) (N := some 57) (v := ?_) (a' := ?_) #[true, true, false, false, false, false, false, false, false, false, false, false, false, false, false, false, false, false, false, false, false, false, false, false, false, false, false, false, false, false, false, false, false, false, false, false, false, false, false, false, false, false] rfl rfl (by kernel_rfl) (fun _ _ _ h => h) (Or.inl ⟨by rfl, ?_⟩) ?_ ?_
      rotate_left
      · intro w'
        go_simp
        with_reducible rfl
      rotate_left
      · simp only [Act.put, List.setIfInBounds_toArray, List.set_cons_zero, List.set_cons_succ, i64_w, i32_w]
        rfl
      refine pure_ (i := 2) (N := some 58) (v := ?_) (a' := ?_) #[true, true, true, false, false, false, false, false, false, false, false, false, false, false, false, false, false, false, false, false, false, false, false, false, false, false, false, false, false, false, false, false, false, false, false, false, false, false, false, false, false, false] rfl rfl (by kernel_rfl) (fun _ _ _ h => h) (Or.inl ⟨by rfl, ?_⟩) ?_ ?_
      rotate_left
      · intro w'
        go_simp
        with_reducible rfl
      rotate_left
      · simp only [Act.put, List.setIfInBounds_toArray, List.set_cons_zero, List.set_cons_succ, i64_w, i32_w]
        rfl
      refine pure_ (i := 3) (N := some 59) (v := ?_) (a' := ?_) #[true, true, true, true, false, false, false, false, false, false, false, false, false, false, false, false, false, false, false, false, false, false, false, false, false, false, false, false, false, false, false, false, false, false, false, false, false, false, false, false, false, false] rfl rfl (by kernel_rfl) (fun _ _ _ h => h) (Or.inl ⟨by rfl, ?_⟩) ?_ ?_
      rotate_left
      · intro w'
        go_simp
        with_reducible rfl
      rotate_left
      · simp only [Act.put, List.setIfInBounds_toArray, List.set_cons_zero, List.set_cons_succ, i64_w, i32_w]
        rfl
      refine pure_ (i := 4) (N := some 60) (v := ?_) (a' := ?_) #[true, true, true, true, true, false, false, false, false, false, false, false, false, false, false, false, false, false, false, false, false, false, false, false, false, false, false, false, false, false, false, false, false, false, false, false, false, false, false, false, false, false] rfl rfl (by kernel_rfl) (fun _ _ _ h => h) (Or.inl ⟨by rfl, ?_⟩) ?_ ?_
      rotate_left
      · intro w'
        go_simp
        with_reducible rfl
      rotate_left
      · simp only [Act.put, List.setIfInBounds_toArray, List.set_cons_zero, List.set_cons_succ, i64_w, i32_w]
        rfl
      refine pure_ (i := 5) (N := some 61) (v := ?_) (a' := ?_) #[true, true, true, true, true, true, false, false, false, false, false, false, false, false, false, false, false, false, false, false, false, false, false, false, false, false, false, false, false, false, false, false, false, false, false, false, false, false, false, false, false, false] rfl rfl (by kernel_rfl) (fun _ _ _ h => h) (Or.inl ⟨by rfl, ?_⟩) ?_ ?_
      rotate_left
      · intro w'
        go_simp
        with_reducible rfl
      rotate_left
      · simp only [Act.put, List.setIfInBounds_toArray, List.set_cons_zero, List.set_cons_succ, i64_w, i32_w]
        rfl
      refine pure_ (i := 6) (N := some 62) (v := ?_) (a' := ?_) #[true, true, true, true, true, true, true, false, false, false, false, false, false, false, false, false, false, false, false, false, false, false, false, false, false, false, false, false, false, false, false, false, false, false, false, false, false, false, false, false, false, false] rfl rfl (by kernel_rfl) (fun _ _ _ h => h) (Or.inl ⟨by rfl, ?_⟩) ?_ ?_
      rotate_left
      · intro w'
        go_simp
        with_reducible rfl
      rotate_left
      · simp only [Act.put, List.setIfInBounds_toArray, List.set_cons_zero, List.set_cons_succ, i64_w, i32_w]
        rfl
      refine pure_ (i := 7) (N := some 63) (v := ?_) (a' := ?_) #[true, true, true, true, true, true, true, true, false, false, false, false, false, false, false, false, false, false, false, false, false, false, false, false, false, false, false, false, false, false, false, false, false, false, false, false, false, false, false, false, false, false] rfl rfl (by kernel_rfl) (fun _ _ _ h => h) (Or.inl ⟨by rfl, ?_⟩) ?_ ?_
      rotate_left
      · intro w'
        go_simp
        with_reducible rfl
      rotate_left
      · simp only [Act.put, List.setIfInBounds_toArray, List.set_cons_zero, List.set_cons_succ, i64_w, i32_w]
        rfl
      refine pure_ (i := 8) (N := some 64) (v := ?_) (a' := ?_) #[true, true, true, true, true, true, true, true, true, false, false, false, false, false, false, false, false, false, false, false, false, false, false, false, false, false, false, false, false, false, false, false, false, false, false, false, false, false, false, false, false, false] rfl rfl (by kernel_rfl) (fun _ _ _ h => h) (Or.inl ⟨by rfl, ?_⟩) ?_ ?_
      rotate_left
      · intro w'
        go_simp
        with_reducible rfl
      rotate_left
      · simp only [Act.put, List.setIfInBounds_toArray, List.set_cons_zero, List.set_cons_succ, i64_w, i32_w]
        rfl
      refine pure_ (i := 9) (N := some 65) (v := ?_) (a' := ?_) #[true, true, true, true, true, true, true, true, true, true, false, false, false, false, false, false, false, false, false, false, false, false, false, false, false, false, false, false, false, false, false, false, false, false, false, false, false, false, false, false, false, false] rfl rfl (by kernel_rfl) (fun _ _ _ h => h) (Or.inl ⟨by rfl, ?_⟩) ?_ ?_
      rotate_left
      · intro w'
        go_simp
        with_reducible rfl
      rotate_left
      · simp only [Act.put, List.setIfInBounds_toArray, List.set_cons_zero, List.set_cons_succ, i64_w, i32_w]
        rfl
      refine take_ (i := 10) (N := some 66) (v := ?_) (a' := ?_) #[true, true, true, true, true, true, true, true, true, true, true, false, false, false, false, false, false, false, false, false, false, false, false, false, false, false, false, false, false, false, false, false, false, false, false, false, false, false, false, false, false, false] rfl rfl (by kernel_rfl) (fun _ _ _ h => h) (Or.inl ⟨by rfl, ?_⟩) hHeld ?_ ?_
      rotate_left
      · rintro w' ⟨s0, s1, s2, s3, s4⟩
        go_simp
        with_reducible rfl
      rotate_left
      · simp only [Act.put, List.setIfInBounds_toArray, List.set_cons_zero, List.set_cons_succ, i64_w, i32_w]
        rfl
      refine pure_ (i := 11) (N := some 67) (v := ?_) (a' := ?_) #[true, true, true, true, true, true, true, true, true, true, true, true, false, false, false, false, false, false, false, false, false, false, false, false, false, false, false, false, false, false, false, false, false, false, false, false, false, false, false, false, false, false] rfl rfl (by kernel_rfl) (fun _ _ _ h => h) (Or.inl ⟨by rfl, ?_⟩) ?_ ?_
      rotate_left
      · intro w'
        go_simp
        with_reducible rfl
      rotate_left
      · simp only [Act.put, List.setIfInBounds_toArray, List.set_cons_zero, List.set_cons_succ, i64_w, i32_w]
        rfl
      refine pure_ (i := 12) (N := some 68) (v := ?_) (a' := ?_) #[true, true, true, true, true, true, true, true, true, true, true, true, true, false, false, false, false, false, false, false, false, false, false, false, false, false, false, false, false, false, false, false, false, false, false, false, false, false, false, false, false, false] rfl rfl (by kernel_rfl) (fun _ _ _ h => h) (Or.inl ⟨by rfl, ?_⟩) ?_ ?_
      rotate_left
      · intro w'
        go_simp
        with_reducible rfl
      rotate_left
      · simp only [Act.put, List.setIfInBounds_toArray, List.set_cons_zero, List.set_cons_succ, i64_w, i32_w]
        rfl
      refine pure_ (i := 13) (N := some 69) (v := ?_) (a' := ?_) #[true, true, true, true, true, true, true, true, true, true, true, true, true, true, false, false, false, false, false, false, false, false, false, false, false, false, false, false, false, false, false, false, false, false, false, false, false, false, false, false, false, false] rfl rfl (by kernel_rfl) (fun _ _ _ h => h) (Or.inl ⟨by rfl, ?_⟩) ?_ ?_
      rotate_left
      · intro w'
        go_simp
        with_reducible rfl
      rotate_left
      · simp only [Act.put, List.setIfInBounds_toArray, List.set_cons_zero, List.set_cons_succ, i64_w, i32_w]
        rfl
      refine pure_ (i := 14) (N := some 70) (v := ?_) (a' := ?_) #[true, true, true, true, true, true, true, true, true, true, true, true, true, true, true, false, false, false, false, false, false, false, false, false, false, false, false, false, false, false, false, false, false, false, false, false, false, false, false, false, false, false] rfl rfl (by kernel_rfl) (fun _ _ _ h => h) (Or.inl ⟨by rfl, ?_⟩) ?_ ?_
      rotate_left
      · intro w'
        go_simp
        with_reducible rfl
      rotate_left
      · simp only [Act.put, List.setIfInBounds_toArray, List.set_cons_zero, List.set_cons_succ, i64_w, i32_w]
        rfl
      refine pure_ (i := 15) (N := some 71) (v := ?_) (a' := ?_) #[true, true, true, true, true, true, true, true, true, true, true, true, true, true, true, true, false, false, false, false, false, false, false, false, false, false, false, false, false, false, false, false, false, false, false, false, false, false, false, false, false, false] rfl rfl (by kernel_rfl) (fun _ _ _ h => h) (Or.inl ⟨by rfl, ?_⟩) ?_ ?_
      rotate_left
      · intro w'
        go_simp
        with_reducible rfl
      rotate_left
      · simp only [Act.put, List.setIfInBounds_toArray, List.set_cons_zero, List.set_cons_succ, i64_w, i32_w]
        rfl
      refine pure_ (i := 16) (N := some 72) (v := ?_) (a' := ?_) #[true, true, true, true, true, true, true, true, true, true, true, true, true, true, true, true, true, false, false, false, false, false, false, false, false, false, false, false, false, false, false, false, false, false, false, false, false, false, false, false, false, false] rfl rfl (by kernel_rfl) (fun _ _ _ h => h) (Or.inl ⟨by rfl, ?_⟩) ?_ ?_
      rotate_left
      · intro w'
        go_simp
        with_reducible rfl
      rotate_left
      · simp only [Act.put, List.setIfInBounds_toArray, List.set_cons_zero, List.set_cons_succ, i64_w, i32_w]
        rfl
      refine pure_ (i := 17) (N := some 73) (v := ?_) (a' := ?_) #[true, true, true, true, true, true, true, true, true, true, true, true, true, true, true, true, true, true, false, false, false, false, false, false, false, false, false, false, false, false, false, false, false, false, false, false, false, false, false, false, false, false] rfl rfl (by kernel_rfl) (fun _ _ _ h => h) (Or.inl ⟨by rfl, ?_⟩) ?_ ?_
      rotate_left
      · intro w'
        go_simp
        with_reducible rfl
      rotate_left
      · simp only [Act.put, List.setIfInBounds_toArray, List.set_cons_zero, List.set_cons_succ, i64_w, i32_w]
        rfl
      refine pure_ (i := 20) (N := some 76) (v := ?_) (a' := ?_) #[true, true, true, true, true, true, true, true, true, true, true, true, true, true, true, true, true, true, false, false, true, false, false, false, false, false, false, false, false, false, false, false, false, false, false, false, false, false, false, false, false, false] rfl rfl (by kernel_rfl) (fun _ _ _ h => h) (Or.inl ⟨by rfl, ?_⟩) ?_ ?_
      rotate_left
      · intro w'
        go_simp
        with_reducible rfl
      rotate_left
      · simp only [Act.put, List.setIfInBounds_toArray, List.set_cons_zero, List.set_cons_succ, i64_w, i32_w]
        rfl
      refine take_ (i := 18) (N := some 74) (v := ?_) (a' := ?_) #[true, true, true, true, true, true, true, true, true, true, true, true, true, true, true, true, true, true, true, false, true, false, false, false, false, false, false, false, false, false, false, false, false, false, false, false, false, false, false, false, false, false] rfl rfl (by kernel_rfl) (fun _ _ _ h => h) (Or.inl ⟨by rfl, ?_⟩) hHeld ?_ ?_
      rotate_left
      · rintro w' ⟨s0, s1, s2, s3, s4⟩
        go_simp
        with_reducible rfl
      rotate_left
      · simp only [Act.put, List.setIfInBounds_toArray, List.set_cons_zero, List.set_cons_succ, i64_w, i32_w]
        rfl
      refine one_ (i := 19) (N := some 75) #[true, true, true, true, true, true, true, true, true, true, true, true, true, true, true, true, true, true, true, true, true, false, false, false, false, false, false, false, false, false, false, false, false, false, false, false, false, false, false, false, false, false] rfl rfl (by kernel_rfl) (by decide) (fun K hK => ?_)
      refine goes_ Tryd.func11 (by kernel_rfl) rfl #[.slice a0 97 d0] (by rfl) rfl rfl (by simp only [List.map_toArray, List.map_cons, List.map_nil]; rfl) ?_
      with_reducible refine ((SX0.out _ hHeld.2.2.2.2)).mono ?_
      rintro e' ws1 ⟨rfl, bs1⟩
      refine ⟨_, rfl, ?_⟩
      refine hK.out _ _ ⟨(below_cell bs1 hHeld.1), (below_cell bs1 hHeld.2.1), (below_cell bs1 hHeld.2.2.1), (CV.out _ (below_then hHeld.2.2.2.2 bs1)), (below_then hHeld.2.2.2.2 bs1)⟩ (fun hHeld => ?_)
      clear hK K
      refine norm_ (a' := ?_) ?_ ?_
      rotate_left
      · show Act.put _ (some 75) _ = _
        simp only [Act.put, List.setIfInBounds_toArray, List.set_cons_zero, List.set_cons_succ, i64_w, i32_w]
        rfl
      refine pure_ (i := 21) (N := some 77) (v := ?_) (a' := ?_) #[true, true, true, true, true, true, true, true, true, true, true, true, true, true, true, true, true, true, true, true, true, true, false, false, false, false, false, false, false, false, false, false, false, false, false, false, false, false, false, false, false, false] rfl rfl (by kernel_rfl) (fun _ _ _ h => h) (Or.inl ⟨by rfl, ?_⟩) ?_ ?_
      rotate_left
      · intro w'
        go_simp
        with_reducible rfl
      rotate_left
      · simp only [Act.put, List.setIfInBounds_toArray, List.set_cons_zero, List.set_cons_succ, i64_w, i32_w]
        rfl
      refine pure_ (i := 22) (N := some 78) (v := ?_) (a' := ?_) #[true, true, true, true, true, true, true, true, true, true, true, true, true, true, true, true, true, true, true, true, true, true, true, false, false, false, false, false, false, false, false, false, false, false, false, false, false, false, false, false, false, false] rfl rfl (by kernel_rfl) (fun _ _ _ h => h) (Or.inl ⟨by rfl, ?_⟩) ?_ ?_
      rotate_left
      · intro w'
        go_simp
        with_reducible rfl
      rotate_left
      · simp only [Act.put, List.setIfInBounds_toArray, List.set_cons_zero, List.set_cons_succ, i64_w, i32_w]
        rfl
      refine pure_ (i := 23) (N := some 79) (v := ?_) (a' := ?_) #[true, true, true, true, true, true, true, true, true, true, true, true, true, true, true, true, true, true, true, true, true, true, true, true, false, false, false, false, false, false, false, false, false, false, false, false, false, false, false, false, false, false] rfl rfl (by kernel_rfl) (fun _ _ _ h => h) (Or.inl ⟨by rfl, ?_⟩) ?_ ?_
      rotate_left
      · intro w'
        go_simp
        with_reducible rfl
      rotate_left
      · simp only [Act.put, List.setIfInBounds_toArray, List.set_cons_zero, List.set_cons_succ, i64_w, i32_w]
        rfl
      refine pure_ (i := 24) (N := some 80) (v := ?_) (a' := ?_) #[true, true, true, true, true, true, true, true, true, true, true, true, true, true, true, true, true, true, true, true, true, true, true, true, true, false, false, false, false, false, false, false, false, false, false, false, false, false, false, false, false, false] rfl rfl (by kernel_rfl) (fun _ _ _ h => h) (Or.inl ⟨by rfl, ?_⟩) ?_ ?_
      rotate_left
      · intro w'
        go_simp
        with_reducible rfl
      rotate_left
      · simp only [Act.put, List.setIfInBounds_toArray, List.set_cons_zero, List.set_cons_succ, i64_w, i32_w]
        rfl
      refine pure_ (i := 25) (N := some 81) (v := ?_) (a' := ?_) #[true, true, true, true, true, true, true, true, true, true, true, true, true, true, true, true, true, true, true, true, true, true, true, true, true, true, false, false, false, false, false, false, false, false, false, false, false, false, false, false, false, false] rfl rfl (by kernel_rfl) (fun _ _ _ h => h) (Or.inl ⟨by rfl, ?_⟩) ?_ ?_
      rotate_left
      · intro w'
        go_simp
        with_reducible rfl
      rotate_left
      · simp only [Act.put, List.setIfInBounds_toArray, List.set_cons_zero, List.set_cons_succ, i64_w, i32_w]
        rfl
      refine take_ (i := 26) (N := some 82) (v := ?_) (a' := ?_) #[true, true, true, true, true, true, true, true, true, true, true, true, true, true, true, true, true, true, true, true, true, true, true, true, true, true, true, false, false, false, false, false, false, false, false, false, false, false, false, false, false, false] rfl rfl (by kernel_rfl) (fun _ _ _ h => h) (Or.inl ⟨by rfl, ?_⟩) hHeld ?_ ?_
      rotate_left
      · rintro w' ⟨s0, s1, s2, s3, s4⟩
        go_simp
        with_reducible rfl
      rotate_left
      · simp only [Act.put, List.setIfInBounds_toArray, List.set_cons_zero, List.set_cons_succ, i64_w, i32_w]
        rfl
      refine pure_ (i := 27) (N := some 83) (v := ?_) (a' := ?_) #[true, true, true, true, true, true, true, true, true, true, true, true, true, true, true, true, true, true, true, true, true, true, true, true, true, true, true, true, false, false, false, false, false, false, false, false, false, false, false, false, false, false] rfl rfl (by kernel_rfl) (fun _ _ _ h => h) (Or.inl ⟨by rfl, ?_⟩) ?_ ?_
      rotate_left
      · intro w'
        go_simp
        with_reducible rfl
      rotate_left
      · simp only [Act.put, List.setIfInBounds_toArray, List.set_cons_zero, List.set_cons_succ, i64_w, i32_w]
        rfl
      refine pure_ (i := 28) (N := some 84) (v := ?_) (a' := ?_) #[true, true, true, true, true, true, true, true, true, true, true, true, true, true, true, true, true, true, true, true, true, true, true, true, true, true, true, true, true, false, false, false, false, false, false, false, false, false, false, false, false, false] rfl rfl (by kernel_rfl) (fun _ _ _ h => h) (Or.inl ⟨by rfl, ?_⟩) ?_ ?_
      rotate_left
      · intro w'
        go_simp
        with_reducible rfl
      rotate_left
      · simp only [Act.put, List.setIfInBounds_toArray, List.set_cons_zero, List.set_cons_succ, i64_w, i32_w]
        rfl
      refine pure_ (i := 29) (N := some 85) (v := ?_) (a' := ?_) #[true, true, true, true, true, true, true, true, true, true, true, true, true, true, true, true, true, true, true, true, true, true, true, true, true, true, true, true, true, true, false, false, false, false, false, false, false, false, false, false, false, false] rfl rfl (by kernel_rfl) (fun _ _ _ h => h) (Or.inl ⟨by rfl, ?_⟩) ?_ ?_
      rotate_left
      · intro w'
        go_simp
        with_reducible rfl
      rotate_left
      · simp only [Act.put, List.setIfInBounds_toArray, List.set_cons_zero, List.set_cons_succ, i64_w, i32_w]
        rfl
      refine pure_ (i := 30) (N := some 86) (v := ?_) (a' := ?_) #[true, true, true, true, true, true, true, true, true, true, true, true, true, true, true, true, true, true, true, true, true, true, true, true, true, true, true, true, true, true, true, false, false, false, false, false, false, false, false, false, false, false] rfl rfl (by kernel_rfl) (fun _ _ _ h => h) (Or.inl ⟨by rfl, ?_⟩) ?_ ?_
      rotate_left
      · intro w'
        go_simp
        with_reducible rfl
      rotate_left
      · simp only [Act.put, List.setIfInBounds_toArray, List.set_cons_zero, List.set_cons_succ, i64_w, i32_w]
        rfl
      refine pure_ (i := 31) (N := some 87) (v := ?_) (a' := ?_) #[true, true, true, true, true, true, true, true, true, true, true, true, true, true, true, true, true, true, true, true, true, true, true, true, true, true, true, true, true, true, true, true, false, false, false, false, false, false, false, false, false, false] rfl rfl (by kernel_rfl) (fun _ _ _ h => h) (Or.inl ⟨by rfl, ?_⟩) ?_ ?_
      rotate_left
      · intro w'
        go_simp
        with_reducible rfl
      rotate_left
      · simp only [Act.put, List.setIfInBounds_toArray, List.set_cons_zero, List.set_cons_succ, i64_w, i32_w]
        rfl
      refine pure_ (i := 32) (N := some 88) (v := ?_) (a' := ?_) #[true, true, true, true, true, true, true, true, true, true, true, true, true, true, true, true, true, true, true, true, true, true, true, true, true, true, true, true, true, true, true, true, true, false, false, false, false, false, false, false, false, false] rfl rfl (by kernel_rfl) (fun _ _ _ h => h) (Or.inl ⟨by rfl, ?_⟩) ?_ ?_
      rotate_left
      · intro w'
        go_simp
        with_reducible rfl
      rotate_left
      · simp only [Act.put, List.setIfInBounds_toArray, List.set_cons_zero, List.set_cons_succ, i64_w, i32_w]
        rfl
      refine pure_ (i := 36) (N := some 92) (v := ?_) (a' := ?_) #[true, true, true, true, true, true, true, true, true, true, true, true, true, true, true, true, true, true, true, true, true, true, true, true, true, true, true, true, true, true, true, true, true, false, false, false, true, false, false, false, false, false] rfl rfl (by kernel_rfl) (fun _ _ _ h => h) (Or.inl ⟨by rfl, ?_⟩) ?_ ?_
      rotate_left
      · intro w'
        go_simp
        with_reducible rfl
      rotate_left
      · simp only [Act.put, List.setIfInBounds_toArray, List.set_cons_zero, List.set_cons_succ, i64_w, i32_w]
        rfl
      refine pure_ (i := 37) (N := some 93) (v := ?_) (a' := ?_) #[true, true, true, true, true, true, true, true, true, true, true, true, true, true, true, true, true, true, true, true, true, true, true, true, true, true, true, true, true, true, true, true, true, false, false, false, true, true, false, false, false, false] rfl rfl (by kernel_rfl) (fun _ _ _ h => h) (Or.inl ⟨by rfl, ?_⟩) ?_ ?_
      rotate_left
      · intro w'
        go_simp
        with_reducible rfl
      rotate_left
      · simp only [Act.put, List.setIfInBounds_toArray, List.set_cons_zero, List.set_cons_succ, i64_w, i32_w]
        rfl
      refine take_ (i := 33) (N := some 89) (v := ?_) (a' := ?_) #[true, true, true, true, true, true, true, true, true, true, true, true, true, true, true, true, true, true, true, true, true, true, true, true, true, true, true, true, true, true, true, true, true, true, false, false, true, true, false, false, false, false] rfl rfl (by kernel_rfl) (fun _ _ _ h => h) (Or.inl ⟨by rfl, ?_⟩) hHeld ?_ ?_
      rotate_left
      · rintro w' ⟨s0, s1, s2, s3, s4⟩
        go_simp
        with_reducible rfl
      rotate_left
      · simp only [Act.put, List.setIfInBounds_toArray, List.set_cons_zero, List.set_cons_succ, i64_w, i32_w]
        rfl
      refine pure_ (i := 34) (N := some 90) (v := ?_) (a' := ?_) #[true, true, true, true, true, true, true, true, true, true, true, true, true, true, true, true, true, true, true, true, true, true, true, true, true, true, true, true, true, true, true, true, true, true, true, false, true, true, false, false, false, false] rfl rfl (by kernel_rfl) (fun _ _ _ h => h) (Or.inl ⟨by rfl, ?_⟩) ?_ ?_
      rotate_left
      · intro w'
        go_simp
        with_reducible rfl
      rotate_left
      · simp only [Act.put, List.setIfInBounds_toArray, List.set_cons_zero, List.set_cons_succ, i64_w, i32_w]
        rfl
      refine take_ (i := 35) (N := some 91) (v := ?_) (a' := ?_) #[true, true, true, true, true, true, true, true, true, true, true, true, true, true, true, true, true, true, true, true, true, true, true, true, true, true, true, true, true, true, true, true, true, true, true, true, true, true, false, false, false, false] rfl rfl (by kernel_rfl) (fun _ _ _ h => h) (Or.inl ⟨by rfl, ?_⟩) hHeld ?_ ?_
      rotate_left
      · rintro w' ⟨s0, s1, s2, s3, s4⟩
        go_simp
        with_reducible rfl
      rotate_left
      · simp only [Act.put, List.setIfInBounds_toArray, List.set_cons_zero, List.set_cons_succ, i64_w, i32_w]
        rfl
      refine take_ (i := 38) (N := some 94) (v := ?_) (a' := ?_) #[true, true, true, true, true, true, true, true, true, true, true, true, true, true, true, true, true, true, true, true, true, true, true, true, true, true, true, true, true, true, true, true, true, true, true, true, true, true, true, false, false, false] rfl rfl (by kernel_rfl) (fun _ _ _ h => h) (Or.inl ⟨by rfl, ?_⟩) hHeld ?_ ?_
      rotate_left
      · rintro w' ⟨s0, s1, s2, s3, s4⟩
        go_simp
        with_reducible rfl
      rotate_left
      · simp only [Act.put, List.setIfInBounds_toArray, List.set_cons_zero, List.set_cons_succ, i64_w, i32_w]
        rfl
      refine one_ (i := 39) (N := some 95) #[true, true, true, true, true, true, true, true, true, true, true, true, true, true, true, true, true, true, true, true, true, true, true, true, true, true, true, true, true, true, true, true, true, true, true, true, true, true, true, true, false, false] rfl rfl (by kernel_rfl) (by decide) (fun K hK => ?_)
      refine goes_ Tryd.func11 (by kernel_rfl) rfl #[.slice a1 m1 d1] (by rfl) rfl rfl (by simp only [List.map_toArray, List.map_cons, List.map_nil]; rfl) ?_
      with_reducible refine ((SX1.out _ hHeld.2.2.2.2)).mono ?_
      rintro e' ws2 ⟨rfl, bs2⟩
      refine ⟨_, rfl, ?_⟩
      refine hK.out _ _ ⟨(below_cell bs2 hHeld.1), (below_cell bs2 hHeld.2.1), (below_cell bs2 hHeld.2.2.1), (CV.out _ (below_then hHeld.2.2.2.2 bs2)), (below_then hHeld.2.2.2.2 bs2)⟩ (fun hHeld => ?_)
      clear hK K
      refine norm_ (a' := ?_) ?_ ?_
      rotate_left
      · show Act.put _ (some 95) _ = _
        simp only [Act.put, List.setIfInBounds_toArray, List.set_cons_zero, List.set_cons_succ, i64_w, i32_w]
        rfl
      refine pure_ (i := 40) (N := some 96) (v := ?_) (a' := ?_) #[true, true, true, true, true, true, true, true, true, true, true, true, true, true, true, true, true, true, true, true, true, true, true, true, true, true, true, true, true, true, true, true, true, true, true, true, true, true, true, true, true, false] rfl rfl (by kernel_rfl) (fun _ _ _ h => h) (Or.inl ⟨by rfl, ?_⟩) ?_ ?_
      rotate_left
      · intro w'
        go_simp
        with_reducible rfl
      rotate_left
      · simp only [Act.put, List.setIfInBounds_toArray, List.set_cons_zero, List.set_cons_succ, i64_w, i32_w]
        rfl
      refine pure_ (i := 41) (N := some 97) (v := ?_) (a' := ?_) #[true, true, true, true, true, true, true, true, true, true, true, true, true, true, true, true, true, true, true, true, true, true, true, true, true, true, true, true, true, true, true, true, true, true, true, true, true, true, true, true, true, true] rfl rfl (by kernel_rfl) (fun _ _ _ h => h) (Or.inl ⟨by rfl, ?_⟩) ?_ ?_
      rotate_left
      · intro w'
        go_simp
        with_reducible rfl
      rotate_left
      · simp only [Act.put, List.setIfInBounds_toArray, List.set_cons_zero, List.set_cons_succ, i64_w, i32_w]
        rfl
      refine done_ (by kernel_rfl) ?_
      have B10 := hid hHeld.2.2.2.2
      replace TT := hid (TT.out.below B10.out)
      replace LL := hid (LL.out.below B10.out)
      replace BB := hid (below_then BB.out B10.out)
      have K60 : k1.size ≤ maxLen := by have := KBk1.out; unfold maxLen; omega
      clear v0 p0 p1 CV SX0 SX1 cr' i0 i1 B10 Z0 Z1 t8 t9 wN PB RB
      generalize ws2 = wz at *
      go_wp2
      go_loopw [16] (fun v wr => ∃ k : Nat, k ≤ ns ∧ v = .int .i64 ((k : Int) + 1) ∧ Hid (Below wz.heap.size wz wr)) (fun v _ => (ns + 2) - (intOf v).toNat)
      case atStart => exact ⟨0, Nat.zero_le _, by simp, hid (Below.refl _ _)⟩
      case round =>
        obtain ⟨k, hk, rfl, hB⟩ := hrel
        obtain ⟨i, hi⟩ : ∃ i, i = k + 1 := ⟨_, rfl⟩
        have hik : (k : Int) + 1 = (i : Int) := by omega
        rw [hik]
        have HI := hid hi
        by_cases hlt : k < ns
        · obtain ⟨t2, t3, et2, et3, tl, ts⟩ := EA.out k (by rw [← HNS.out.1]; exact hlt)
          have TS := hid ts
          have lt1 : (i : Int) + 1 < (ns : Int) + 2 := by omega
          have ki : (i : Int) - 1 = (k : Int) := by omega
          have kn : i < ps.length := by rw [PS.out.1]; omega
          have kn2 : i + 1 < ps.length := by rw [PS.out.1]; omega
          obtain ⟨j, hj⟩ : ∃ j, j = i + 1 := ⟨_, rfl⟩
          have h1j : (i : Int) + 1 = (j : Int) := by rw [hj]; rfl
          have hib : (i : Int) ≤ 1000 := by rw [hi]; omega
          have J1 := hid (show (i : Int) < (ns : Int) + 2 by omega)
          have J2 := hid (show (j : Int) < (ns : Int) + 2 by omega)
          have wj0 : wrap64 ((i : Int) + 1) = (j : Int) := by rw [wrap64_is ((i : Int) + 1) ⟨by omega, by omega⟩]; exact h1j
          have WJ := hid wj0
          have HJ := hid hj
          have HTL := hid tl
          clear hik h1j hib wj0 hj tl hi
          go_wp2_with (refine wpList_conv rfl (.tmp 105) rfl k1 rfl K60 ?_)
          intro gx cx wa _ qa ba
          have HSK := hid (rsum_dig (bsz k1) qa (by rw [bsz]; have := KBk1.out; omega))
          have Ba := hid (hB.out.trans (ba.mono hB.out.size))
          clear qa ba
          go_wp2_with fail
          refine HSK.out.mono ?_
          rintro e wb ⟨rfl, bb⟩
          obtain ⟨K, hK⟩ : ∃ K, K = dig k1.data.toList := ⟨_, rfl⟩
          rw [← hK]
          have Bb := hid (Ba.out.trans (bb.mono Ba.out.size))
          obtain ⟨bi, hbi⟩ : ∃ bi, bi = bitOf K.data.toList (k : Int) := ⟨_, rfl⟩
          have HBT0 := rbit_any (w := wb) (s := K) (i := (k : Int)) (by rw [hK, dig_list, sum256_length]; decide) (by omega)
          rw [← hbi] at HBT0
          have HBT := hid HBT0
          have hbi2 : bi = bitOf (pathK k1) (k : Int) := by rw [hbi, hK, dig_list]; rfl
          rw [← hbi2] at TS
          obtain ⟨g2, a2, m2, d2, y2, eg, ci, z2, ym2, ey2⟩ := (LL.out.below Bb.out).pick kn
          cases eg
          obtain ⟨g3, a3, m3, d3, y3, eg, cj0, z3, ym3, ey3⟩ := (LL.out.below Bb.out).pick kn2
          cases eg
          rw [PS.out.2] at ey2 ey3
          rw [HI.out] at ey2 ey3
          obtain rfl : y2 = t2 := Option.some.inj (ey2.symm.trans et2)
          obtain rfl : y3 = t3 := Option.some.inj (ey3.symm.trans et3)
          obtain rfl : m2 = 65 := ym2.symm.trans HTL.out
          have yl3 : y3.length ≤ 200000 := LONG.out y3 (List.mem_of_getElem? et3)
          rw [← HJ.out] at cj0
          have cj := cj0
          obtain ⟨D3, hD3⟩ : ∃ D3, D3 = dig y3 := ⟨_, rfl⟩
          have Z2 := hid z2
          have Z3 := hid z3
          have SX3 : Hid (∀ w' : World, Below wb.heap.size wb w' → Calls Tryd.prog 11 #[.slice a3 m3 d3] w' fun e w'' => e = .returned (.string D3) ∧ Below w'.heap.size w' w'') := hid (fun w' hb' => by rw [hD3]; exact rsum_dig ym3 (Z3.out.below hb') (by omega))
          have wj := WJ.out
          have i1 := eq_true J1.out
          have i2 := eq_true J2.out
          have t8 : (D3.toList != D3.toList) = false := by unfold bne; rw [beq_self_eq_true]; rfl
          have HD3 := hid hD3
          have HLT := hid hlt
          clear HSK bb hK hbi hbi2 HBT0 z2 z3 ym2 ym3 ey2 ey3 et2 et3 yl3 cj0 hD3 kn kn2 ts lt1
          go_wp2_with fail
          refine HBT.out.mono ?_
          rintro e wb2 ⟨rfl, rfl⟩
          clear HBT
          by_cases hb1 : bi = 1
          · have tb : (bi == 1) = true := by rw [hb1]; rfl
            have TS2 : (y2.drop 33).take 32 = sum256 y3 := by have := TS.out; rwa [if_pos hb1] at this
            obtain ⟨A91, c91, cr, cb, cl⟩ := cut_mid (kk := 33) (hh := 65) (k := 33) (h := 65) rfl rfl HTL.out Z2.out (by clear wj i1 i2; omega) (by clear wj i1 i2; omega) (by clear wj i1 i2; omega)
            have cr' : ∀ w' : World, (Instr.slice 22 (.slice a2 65 d2) (some (.int .i64 33)) (some (.int .i64 (wrap64 65))) none).run Tryd.prog w' = .ok (.slice A91 32 c91) w' := by
              rw [show wrap64 65 = 65 from wrap64_is _ (by omega)]
              exact cr
            have D3e : strB ((y2.drop 33).take 32) = D3 := by rw [TS2, HD3.out]; rfl
            have CW : Hid (∀ w', Below wb.heap.size wb w' → (convert 22 9 (.slice A91 32 c91)).run Tryd.prog w' = .ok (.string D3) w') := hid (fun w' hb' => by
              have h := conv_any (n := 32) cl (cb w' (Z2.out.below hb'))
              rw [show ((y2.drop 33).take (65 - 33)) = (y2.drop 33).take 32 from rfl, D3e] at h
              exact h)
            clear cr cb cl D3e TS2 TS hb1
            go_wp2
            refine start_ (n := 24) (S := fun w' => w'.cell? ⟨g, i, none⟩ = some (.slice a2 65 d2) ∧ w'.cell? ⟨g, j, none⟩ = some (.slice a3 m3 d3) ∧ (convert 22 9 (.slice A91 32 c91)).run Tryd.prog w' = .ok (.string D3) w' ∧ Below wb.heap.size wb w') (ds := []) #[false, false, false, false, false, false, false, false, false, false, false, false, false, false, false, false, false, false, false, false, false, false, false, false] (by kernel_rfl) rfl rfl ⟨ci, cj, (CW.out _ (Below.refl wb.heap.size wb).drew), (Below.refl wb.heap.size wb).drew⟩ (fun hHeld => ?_)
            refine pure_ (i := 0) (N := some 112) (v := ?_) (a' := ?_) #[true, false, false, false, false, false, false, false, false, false, false, false, false, false, false, false, false, false, false, false, false, false, false, false] rfl rfl (by kernel_rfl) (fun _ _ _ h => h) (Or.inl ⟨by rfl, ?_⟩) ?_ ?_
            rotate_left
            · intro w'
              go_simp
              with_reducible rfl
            rotate_left
            · simp only [Act.put, List.setIfInBounds_toArray, List.set_cons_zero, List.set_cons_succ, i64_w, i32_w]
              rfl
            refine pure_ (i := 1) (N := some 113) (v := ?_) (a' := ?_) #[true, true, false, false, false, false, false, false, false, false, false, false, false, false, false, false, false, false, false, false, false, false, false, false] rfl rfl (by kernel_rfl) (fun _ _ _ h => h) (Or.inl ⟨by rfl, ?_⟩) ?_ ?_
            rotate_left
            · intro w'
              go_simp
              with_reducible rfl
            rotate_left
            · simp only [Act.put, List.setIfInBounds_toArray, List.set_cons_zero, List.set_cons_succ, i64_w, i32_w]
              rfl
            refine pure_ (i := 2) (N := some 114) (v := ?_) (a' := ?_) #[true, true, true, false, false, false, false, false, false, false, false, false, false, false, false, false, false, false, false, false, false, false, false, false] rfl rfl (by kernel_rfl) (fun _ _ _ h => h) (Or.inl ⟨by rfl, ?_⟩) ?_ ?_
            rotate_left
            · intro w'
              go_simp
              with_reducible rfl
            rotate_left
            · simp only [Act.put, List.setIfInBounds_toArray, List.set_cons_zero, List.set_cons_succ, i64_w, i32_w]
              rfl
            refine take_ (i := 3) (N := some 115) (v := ?_) (a' := ?_) #[true, true, true, true, false, false, false, false, false, false, false, false, false, false, false, false, false, false, false, false, false, false, false, false] rfl rfl (by kernel_rfl) (fun _ _ _ h => h) (Or.inl ⟨by rfl, ?_⟩) hHeld ?_ ?_
            rotate_left
            · rintro w' ⟨s0, s1, s2, s3⟩
              go_simp
              with_reducible rfl
            rotate_left
            · simp only [Act.put, List.setIfInBounds_toArray, List.set_cons_zero, List.set_cons_succ, i64_w, i32_w]
              rfl
            refine pure_ (i := 4) (N := some 116) (v := ?_) (a' := ?_) #[true, true, true, true, true, false, false, false, false, false, false, false, false, false, false, false, false, false, false, false, false, false, false, false] rfl rfl (by kernel_rfl) (fun _ _ _ h => h) (Or.inl ⟨by rfl, ?_⟩) ?_ ?_
            rotate_left
            · intro w'
              go_simp
              with_reducible rfl
            rotate_left
            · simp only [Act.put, List.setIfInBounds_toArray, List.set_cons_zero, List.set_cons_succ, i64_w, i32_w]
              rfl
            refine pure_ (i := 5) (N := some 117) (v := ?_) (a' := ?_) #[true, true, true, true, true, true, false, false, false, false, false, false, false, false, false, false, false, false, false, false, false, false, false, false] rfl rfl (by kernel_rfl) (fun _ _ _ h => h) (Or.inl ⟨by rfl, ?_⟩) ?_ ?_
            rotate_left
            · intro w'
              go_simp
              with_reducible rfl
            rotate_left
            · simp only [Act.put, List.setIfInBounds_toArray, List.set_cons_zero, List.set_cons_succ, i64_w, i32_w]
              rfl
            refine pure_ (i := 6) (N := some 118) (v := ?_) (a' := ?_) #[true, true, true, true, true, true, true, false, false, false, false, false, false, false, false, false, false, false, false, false, false, false, false, false] rfl rfl (by kernel_rfl) (fun _ _ _ h => h) (Or.inl ⟨by rfl, ?_⟩) ?_ ?_
            rotate_left
            · intro w'
              go_simp
              with_reducible rfl
            rotate_left
            · simp only [Act.put, List.setIfInBounds_toArray, List.set_cons_zero, List.set_cons_succ, i64_w, i32_w]
              rfl
            refine pure_ (i := 7) (N := some 119) (v := ?_) (a' := ?_) #[true, true, true, true, true, true, true, true, false, false, false, false, false, false, false, false, false, false, false, false, false, false, false, false] rfl rfl (by kernel_rfl) (fun _ _ _ h => h) (Or.inl ⟨by rfl, ?_⟩) ?_ ?_
            rotate_left
            · intro w'
              go_simp
              with_reducible rfl
            rotate_left
            · simp only [Act.put, List.setIfInBounds_toArray, List.set_cons_zero, List.set_cons_succ, i64_w, i32_w]
              rfl
            refine pure_ (i := 8) (N := some 120) (v := ?_) (a' := ?_) #[true, true, true, true, true, true, true, true, true, false, false, false, false, false, false, false, false, false, false, false, false, false, false, false] rfl rfl (by kernel_rfl) (fun _ _ _ h => h) (Or.inl ⟨by rfl, ?_⟩) ?_ ?_
            rotate_left
            · intro w'
              go_simp
              with_reducible rfl
            rotate_left
            · simp only [Act.put, List.setIfInBounds_toArray, List.set_cons_zero, List.set_cons_succ, i64_w, i32_w]
              rfl
            refine pure_ (i := 9) (N := some 121) (v := ?_) (a' := ?_) #[true, true, true, true, true, true, true, true, true, true, false, false, false, false, false, false, false, false, false, false, false, false, false, false] rfl rfl (by kernel_rfl) (fun _ _ _ h => h) (Or.inl ⟨by rfl, ?_⟩) ?_ ?_
            rotate_left
            · intro w'
              go_simp
              with_reducible rfl
            rotate_left
            · simp only [Act.put, List.setIfInBounds_toArray, List.set_cons_zero, List.set_cons_succ, i64_w, i32_w]
              rfl
            refine pure_ (i := 11) (N := some 123) (v := ?_) (a' := ?_) #[true, true, true, true, true, true, true, true, true, true, false, true, false, false, false, false, false, false, false, false, false, false, false, false] rfl rfl (by kernel_rfl) (fun _ _ _ h => h) (Or.inl ⟨by rfl, ?_⟩) ?_ ?_
            rotate_left
            · intro w'
              go_simp
              with_reducible rfl
            rotate_left
            · simp only [Act.put, List.setIfInBounds_toArray, List.set_cons_zero, List.set_cons_succ, i64_w, i32_w]
              rfl
            refine pure_ (i := 12) (N := some 124) (v := ?_) (a' := ?_) #[true, true, true, true, true, true, true, true, true, true, false, true, true, false, false, false, false, false, false, false, false, false, false, false] rfl rfl (by kernel_rfl) (fun _ _ _ h => h) (Or.inl ⟨by rfl, ?_⟩) ?_ ?_
            rotate_left
            · intro w'
              go_simp
              with_reducible rfl
            rotate_left
            · simp only [Act.put, List.setIfInBounds_toArray, List.set_cons_zero, List.set_cons_succ, i64_w, i32_w]
              rfl
            refine pure_ (i := 13) (N := some 125) (v := ?_) (a' := ?_) #[true, true, true, true, true, true, true, true, true, true, false, true, true, true, false, false, false, false, false, false, false, false, false, false] rfl rfl (by kernel_rfl) (fun _ _ _ h => h) (Or.inl ⟨by rfl, ?_⟩) ?_ ?_
            rotate_left
            · intro w'
              go_simp
              with_reducible rfl
            rotate_left
            · simp only [Act.put, List.setIfInBounds_toArray, List.set_cons_zero, List.set_cons_succ, i64_w, i32_w]
              rfl
            refine pure_ (i := 16) (N := some 128) (v := ?_) (a' := ?_) #[true, true, true, true, true, true, true, true, true, true, false, true, true, true, false, false, true, false, false, false, false, false, false, false] rfl rfl (by kernel_rfl) (fun _ _ _ h => h) (Or.inl ⟨by rfl, ?_⟩) ?_ ?_
            rotate_left
            · intro w'
              go_simp
              with_reducible rfl
            rotate_left
            · simp only [Act.put, List.setIfInBounds_toArray, List.set_cons_zero, List.set_cons_succ, i64_w, i32_w]
              rfl
            refine pure_ (i := 17) (N := some 129) (v := ?_) (a' := ?_) #[true, true, true, true, true, true, true, true, true, true, false, true, true, true, false, false, true, true, false, false, false, false, false, false] rfl rfl (by kernel_rfl) (fun _ _ _ h => h) (Or.inl ⟨by rfl, ?_⟩) ?_ ?_
            rotate_left
            · intro w'
              go_simp
              with_reducible rfl
            rotate_left
            · simp only [Act.put, List.setIfInBounds_toArray, List.set_cons_zero, List.set_cons_succ, i64_w, i32_w]
              rfl
            refine pure_ (i := 18) (N := some 130) (v := ?_) (a' := ?_) #[true, true, true, true, true, true, true, true, true, true, false, true, true, true, false, false, true, true, true, false, false, false, false, false] rfl rfl (by kernel_rfl) (fun _ _ _ h => h) (Or.inl ⟨by rfl, ?_⟩) ?_ ?_
            rotate_left
            · intro w'
              go_simp
              with_reducible rfl
            rotate_left
            · simp only [Act.put, List.setIfInBounds_toArray, List.set_cons_zero, List.set_cons_succ, i64_w, i32_w]
              rfl
            refine pure_ (i := 19) (N := some 131) (v := ?_) (a' := ?_) #[true, true, true, true, true, true, true, true, true, true, false, true, true, true, false, false, true, true, true, true, false, false, false, false] rfl rfl (by kernel_rfl) (fun _ _ _ h => h) (Or.inl ⟨by rfl, ?_⟩) ?_ ?_
            rotate_left
            · intro w'
              go_simp
              with_reducible rfl
            rotate_left
            · simp only [Act.put, List.setIfInBounds_toArray, List.set_cons_zero, List.set_cons_succ, i64_w, i32_w]
              rfl
            refine take_ (i := 10) (N := some 122) (v := ?_) (a' := ?_) #[true, true, true, true, true, true, true, true, true, true, true, true, true, true, false, false, true, true, true, true, false, false, false, false] rfl rfl (by kernel_rfl) (fun _ _ _ h => h) (Or.inl ⟨by rfl, ?_⟩) hHeld ?_ ?_
            rotate_left
            · rintro w' ⟨s0, s1, s2, s3⟩
              go_simp
              with_reducible rfl
            rotate_left
            · simp only [Act.put, List.setIfInBounds_toArray, List.set_cons_zero, List.set_cons_succ, i64_w, i32_w]
              rfl
            refine pure_ (i := 14) (N := some 126) (v := ?_) (a' := ?_) #[true, true, true, true, true, true, true, true, true, true, true, true, true, true, true, false, true, true, true, true, false, false, false, false] rfl rfl (by kernel_rfl) (fun _ _ _ h => h) (Or.inl ⟨by rfl, ?_⟩) ?_ ?_
            rotate_left
            · intro w'
              go_simp
              with_reducible rfl
            rotate_left
            · simp only [Act.put, List.setIfInBounds_toArray, List.set_cons_zero, List.set_cons_succ, i64_w, i32_w]
              rfl
            refine take_ (i := 15) (N := some 127) (v := ?_) (a' := ?_) #[true, true, true, true, true, true, true, true, true, true, true, true, true, true, true, true, true, true, true, true, false, false, false, false] rfl rfl (by kernel_rfl) (fun _ _ _ h => h) (Or.inl ⟨by rfl, ?_⟩) hHeld ?_ ?_
            rotate_left
            · rintro w' ⟨s0, s1, s2, s3⟩
              go_simp
              with_reducible rfl
            rotate_left
            · simp only [Act.put, List.setIfInBounds_toArray, List.set_cons_zero, List.set_cons_succ, i64_w, i32_w]
              rfl
            refine take_ (i := 20) (N := some 132) (v := ?_) (a' := ?_) #[true, true, true, true, true, true, true, true, true, true, true, true, true, true, true, true, true, true, true, true, true, false, false, false] rfl rfl (by kernel_rfl) (fun _ _ _ h => h) (Or.inl ⟨by rfl, ?_⟩) hHeld ?_ ?_
            rotate_left
            · rintro w' ⟨s0, s1, s2, s3⟩
              go_simp
              with_reducible rfl
            rotate_left
            · simp only [Act.put, List.setIfInBounds_toArray, List.set_cons_zero, List.set_cons_succ, i64_w, i32_w]
              rfl
            refine one_ (i := 21) (N := some 133) #[true, true, true, true, true, true, true, true, true, true, true, true, true, true, true, true, true, true, true, true, true, true, false, false] rfl rfl (by kernel_rfl) (by decide) (fun K hK => ?_)
            refine goes_ Tryd.func11 (by kernel_rfl) rfl #[.slice a3 m3 d3] (by rfl) rfl rfl (by simp only [List.map_toArray, List.map_cons, List.map_nil]; rfl) ?_
            with_reducible refine ((SX3.out _ hHeld.2.2.2)).mono ?_
            rintro e' ws3 ⟨rfl, bs3⟩
            refine ⟨_, rfl, ?_⟩
            refine hK.out _ _ ⟨(below_cell bs3 hHeld.1), (below_cell bs3 hHeld.2.1), (CW.out _ (below_then hHeld.2.2.2 bs3)), (below_then hHeld.2.2.2 bs3)⟩ (fun hHeld => ?_)
            clear hK K
            refine norm_ (a' := ?_) ?_ ?_
            rotate_left
            · show Act.put _ (some 133) _ = _
              simp only [Act.put, List.setIfInBounds_toArray, List.set_cons_zero, List.set_cons_succ, i64_w, i32_w]
              rfl
            refine pure_ (i := 22) (N := some 134) (v := ?_) (a' := ?_) #[true, true, true, true, true, true, true, true, true, true, true, true, true, true, true, true, true, true, true, true, true, true, true, false] rfl rfl (by kernel_rfl) (fun _ _ _ h => h) (Or.inl ⟨by rfl, ?_⟩) ?_ ?_
            rotate_left
            · intro w'
              go_simp
              with_reducible rfl
            rotate_left
            · simp only [Act.put, List.setIfInBounds_toArray, List.set_cons_zero, List.set_cons_succ, i64_w, i32_w]
              rfl
            refine pure_ (i := 23) (N := some 135) (v := ?_) (a' := ?_) #[true, true, true, true, true, true, true, true, true, true, true, true, true, true, true, true, true, true, true, true, true, true, true, true] rfl rfl (by kernel_rfl) (fun _ _ _ h => h) (Or.inl ⟨by rfl, ?_⟩) ?_ ?_
            rotate_left
            · intro w'
              go_simp
              with_reducible rfl
            rotate_left
            · simp only [Act.put, List.setIfInBounds_toArray, List.set_cons_zero, List.set_cons_succ, i64_w, i32_w]
              rfl
            refine done_ (by kernel_rfl) ?_
            have B12 := hid hHeld.2.2.2
            have B3 := hid (Bb.out.trans (B12.out.mono Bb.out.size))
            clear ci cj CW SX3 cr' B12 i1 i2 wj t8 tb Z2 Z3 Ba Bb
            go_wp2
            go_roundw
            case rel => exact ⟨k + 1, HLT.out, by have := HI.out; go_num, B3⟩
            case measure => have := HI.out; have := HLT.out; simp [intOf]; omega
          · have tb : (bi == 1) = false := by rw [beq_eq_false_iff_ne]; exact hb1
            have TS2 : (y2.drop 1).take 32 = sum256 y3 := by have := TS.out; rwa [if_neg hb1] at this
            obtain ⟨A91, c91, cr, cb, cl⟩ := cut_mid (kk := 1) (hh := 33) (k := 1) (h := 33) rfl rfl HTL.out Z2.out (by clear wj i1 i2; omega) (by clear wj i1 i2; omega) (by clear wj i1 i2; omega)
            have cr' : ∀ w' : World, (Instr.slice 22 (.slice a2 65 d2) (some (.int .i64 1)) (some (.int .i64 (wrap64 33))) none).run Tryd.prog w' = .ok (.slice A91 32 c91) w' := by
              rw [show wrap64 33 = 33 from wrap64_is _ (by omega)]
              exact cr
            have D3e : strB ((y2.drop 1).take 32) = D3 := by rw [TS2, HD3.out]; rfl
            have CW : Hid (∀ w', Below wb.heap.size wb w' → (convert 22 9 (.slice A91 32 c91)).run Tryd.prog w' = .ok (.string D3) w') := hid (fun w' hb' => by
              have h := conv_any (n := 32) cl (cb w' (Z2.out.below hb'))
              rw [show ((y2.drop 1).take (33 - 1)) = (y2.drop 1).take 32 from rfl, D3e] at h
              exact h)
            clear cr cb cl D3e TS2 TS hb1
            go_wp2
            refine start_ (n := 24) (S := fun w' => w'.cell? ⟨g, i, none⟩ = some (.slice a2 65 d2) ∧ w'.cell? ⟨g, j, none⟩ = some (.slice a3 m3 d3) ∧ (convert 22 9 (.slice A91 32 c91)).run Tryd.prog w' = .ok (.string D3) w' ∧ Below wb.heap.size wb w') (ds := []) #[false, false, false, false, false, false, false, false, false, false, false, false, false, false, false, false, false, false, false, false, false, false, false, false] (by kernel_rfl) rfl rfl ⟨ci, cj, (CW.out _ (Below.refl wb.heap.size wb).drew), (Below.refl wb.heap.size wb).drew⟩ (fun hHeld => ?_)
            refine pure_ (i := 0) (N := some 112) (v := ?_) (a' := ?_) #[true, false, false, false, false, false, false, false, false, false, false, false, false, false, false, false, false, false, false, false, false, false, false, false] rfl rfl (by kernel_rfl) (fun _ _ _ h => h) (Or.inl ⟨by rfl, ?_⟩) ?_ ?_
            rotate_left
            · intro w'
              go_simp
              with_reducible rfl
            rotate_left
            · simp only [Act.put, List.setIfInBounds_toArray, List.set_cons_zero, List.set_cons_succ, i64_w, i32_w]
              rfl
            refine pure_ (i := 1) (N := some 113) (v := ?_) (a' := ?_) #[true, true, false, false, false, false, false, false, false, false, false, false, false, false, false, false, false, false, false, false, false, false, false, false] rfl rfl (by kernel_rfl) (fun _ _ _ h => h) (Or.inl ⟨by rfl, ?_⟩) ?_ ?_
            rotate_left
            · intro w'
              go_simp
              with_reducible rfl
            rotate_left
            · simp only [Act.put, List.setIfInBounds_toArray, List.set_cons_zero, List.set_cons_succ, i64_w, i32_w]
              rfl
            refine pure_ (i := 2) (N := some 114) (v := ?_) (a' := ?_) #[true, true, true, false, false, false, false, false, false, false, false, false, false, false, false, false, false, false, false, false, false, false, false, false] rfl rfl (by kernel_rfl) (fun _ _ _ h => h) (Or.inl ⟨by rfl, ?_⟩) ?_ ?_
            rotate_left
            · intro w'
              go_simp
              with_reducible rfl
            rotate_left
            · simp only [Act.put, List.setIfInBounds_toArray, List.set_cons_zero, List.set_cons_succ, i64_w, i32_w]
              rfl
            refine take_ (i := 3) (N := some 115) (v := ?_) (a' := ?_) #[true, true, true, true, false, false, false, false, false, false, false, false, false, false, false, false, false, false, false, false, false, false, false, false] rfl rfl (by kernel_rfl) (fun _ _ _ h => h) (Or.inl ⟨by rfl, ?_⟩) hHeld ?_ ?_
            rotate_left
            · rintro w' ⟨s0, s1, s2, s3⟩
              go_simp
              with_reducible rfl
            rotate_left
            · simp only [Act.put, List.setIfInBounds_toArray, List.set_cons_zero, List.set_cons_succ, i64_w, i32_w]
              rfl
            refine pure_ (i := 4) (N := some 116) (v := ?_) (a' := ?_) #[true, true, true, true, true, false, false, false, false, false, false, false, false, false, false, false, false, false, false, false, false, false, false, false] rfl rfl (by kernel_rfl) (fun _ _ _ h => h) (Or.inl ⟨by rfl, ?_⟩) ?_ ?_
            rotate_left
            · intro w'
              go_simp
              with_reducible rfl
            rotate_left
            · simp only [Act.put, List.setIfInBounds_toArray, List.set_cons_zero, List.set_cons_succ, i64_w, i32_w]
              rfl
            refine pure_ (i := 5) (N := some 117) (v := ?_) (a' := ?_) #[true, true, true, true, true, true, false, false, false, false, false, false, false, false, false, false, false, false, false, false, false, false, false, false] rfl rfl (by kernel_rfl) (fun _ _ _ h => h) (Or.inl ⟨by rfl, ?_⟩) ?_ ?_
            rotate_left
            · intro w'
              go_simp
              with_reducible rfl
            rotate_left
            · simp only [Act.put, List.setIfInBounds_toArray, List.set_cons_zero, List.set_cons_succ, i64_w, i32_w]
              rfl
            refine pure_ (i := 6) (N := some 118) (v := ?_) (a' := ?_) #[true, true, true, true, true, true, true, false, false, false, false, false, false, false, false, false, false, false, false, false, false, false, false, false] rfl rfl (by kernel_rfl) (fun _ _ _ h => h) (Or.inl ⟨by rfl, ?_⟩) ?_ ?_
            rotate_left
            · intro w'
              go_simp
              with_reducible rfl
            rotate_left
            · simp only [Act.put, List.setIfInBounds_toArray, List.set_cons_zero, List.set_cons_succ, i64_w, i32_w]
              rfl
            refine pure_ (i := 7) (N := some 119) (v := ?_) (a' := ?_) #[true, true, true, true, true, true, true, true, false, false, false, false, false, false, false, false, false, false, false, false, false, false, false, false] rfl rfl (by kernel_rfl) (fun _ _ _ h => h) (Or.inl ⟨by rfl, ?_⟩) ?_ ?_
            rotate_left
            · intro w'
              go_simp
              with_reducible rfl
            rotate_left
            · simp only [Act.put, List.setIfInBounds_toArray, List.set_cons_zero, List.set_cons_succ, i64_w, i32_w]
              rfl
            refine pure_ (i := 8) (N := some 120) (v := ?_) (a' := ?_) #[true, true, true, true, true, true, true, true, true, false, false, false, false, false, false, false, false, false, false, false, false, false, false, false] rfl rfl (by kernel_rfl) (fun _ _ _ h => h) (Or.inl ⟨by rfl, ?_⟩) ?_ ?_
            rotate_left
            · intro w'
              go_simp
              with_reducible rfl
            rotate_left
            · simp only [Act.put, List.setIfInBounds_toArray, List.set_cons_zero, List.set_cons_succ, i64_w, i32_w]
              rfl
            refine pure_ (i := 9) (N := some 121) (v := ?_) (a' := ?_) #[true, true, true, true, true, true, true, true, true, true, false, false, false, false, false, false, false, false, false, false, false, false, false, false] rfl rfl (by kernel_rfl) (fun _ _ _ h => h) (Or.inl ⟨by rfl, ?_⟩) ?_ ?_
            rotate_left
            · intro w'
              go_simp
              with_reducible rfl
            rotate_left
            · simp only [Act.put, List.setIfInBounds_toArray, List.set_cons_zero, List.set_cons_succ, i64_w, i32_w]
              rfl
            refine pure_ (i := 11) (N := some 123) (v := ?_) (a' := ?_) #[true, true, true, true, true, true, true, true, true, true, false, true, false, false, false, false, false, false, false, false, false, false, false, false] rfl rfl (by kernel_rfl) (fun _ _ _ h => h) (Or.inl ⟨by rfl, ?_⟩) ?_ ?_
            rotate_left
            · intro w'
              go_simp
              with_reducible rfl
            rotate_left
            · simp only [Act.put, List.setIfInBounds_toArray, List.set_cons_zero, List.set_cons_succ, i64_w, i32_w]
              rfl
            refine pure_ (i := 12) (N := some 124) (v := ?_) (a' := ?_) #[true, true, true, true, true, true, true, true, true, true, false, true, true, false, false, false, false, false, false, false, false, false, false, false] rfl rfl (by kernel_rfl) (fun _ _ _ h => h) (Or.inl ⟨by rfl, ?_⟩) ?_ ?_
            rotate_left
            · intro w'
              go_simp
              with_reducible rfl
            rotate_left
            · simp only [Act.put, List.setIfInBounds_toArray, List.set_cons_zero, List.set_cons_succ, i64_w, i32_w]
              rfl
            refine pure_ (i := 13) (N := some 125) (v := ?_) (a' := ?_) #[true, true, true, true, true, true, true, true, true, true, false, true, true, true, false, false, false, false, false, false, false, false, false, false] rfl rfl (by kernel_rfl) (fun _ _ _ h => h) (Or.inl ⟨by rfl, ?_⟩) ?_ ?_
            rotate_left
            · intro w'
              go_simp
              with_reducible rfl
            rotate_left
            · simp only [Act.put, List.setIfInBounds_toArray, List.set_cons_zero, List.set_cons_succ, i64_w, i32_w]
              rfl
            refine pure_ (i := 16) (N := some 128) (v := ?_) (a' := ?_) #[true, true, true, true, true, true, true, true, true, true, false, true, true, true, false, false, true, false, false, false, false, false, false, false] rfl rfl (by kernel_rfl) (fun _ _ _ h => h) (Or.inl ⟨by rfl, ?_⟩) ?_ ?_
            rotate_left
            · intro w'
              go_simp
              with_reducible rfl
            rotate_left
            · simp only [Act.put, List.setIfInBounds_toArray, List.set_cons_zero, List.set_cons_succ, i64_w, i32_w]
              rfl
            refine pure_ (i := 17) (N := some 129) (v := ?_) (a' := ?_) #[true, true, true, true, true, true, true, true, true, true, false, true, true, true, false, false, true, true, false, false, false, false, false, false] rfl rfl (by kernel_rfl) (fun _ _ _ h => h) (Or.inl ⟨by rfl, ?_⟩) ?_ ?_
            rotate_left
            · intro w'
              go_simp
              with_reducible rfl
            rotate_left
            · simp only [Act.put, List.setIfInBounds_toArray, List.set_cons_zero, List.set_cons_succ, i64_w, i32_w]
              rfl
            refine pure_ (i := 18) (N := some 130) (v := ?_) (a' := ?_) #[true, true, true, true, true, true, true, true, true, true, false, true, true, true, false, false, true, true, true, false, false, false, false, false] rfl rfl (by kernel_rfl) (fun _ _ _ h => h) (Or.inl ⟨by rfl, ?_⟩) ?_ ?_
            rotate_left
            · intro w'
              go_simp
              with_reducible rfl
            rotate_left
            · simp only [Act.put, List.setIfInBounds_toArray, List.set_cons_zero, List.set_cons_succ, i64_w, i32_w]
              rfl
            refine pure_ (i := 19) (N := some 131) (v := ?_) (a' := ?_) #[true, true, true, true, true, true, true, true, true, true, false, true, true, true, false, false, true, true, true, true, false, false, false, false] rfl rfl (by kernel_rfl) (fun _ _ _ h => h) (Or.inl ⟨by rfl, ?_⟩) ?_ ?_
            rotate_left
            · intro w'
              go_simp
              with_reducible rfl
            rotate_left
            · simp only [Act.put, List.setIfInBounds_toArray, List.set_cons_zero, List.set_cons_succ, i64_w, i32_w]
              rfl
            refine take_ (i := 10) (N := some 122) (v := ?_) (a' := ?_) #[true, true, true, true, true, true, true, true, true, true, true, true, true, true, false, false, true, true, true, true, false, false, false, false] rfl rfl (by kernel_rfl) (fun _ _ _ h => h) (Or.inl ⟨by rfl, ?_⟩) hHeld ?_ ?_
            rotate_left
            · rintro w' ⟨s0, s1, s2, s3⟩
              go_simp
              with_reducible rfl
            rotate_left
            · simp only [Act.put, List.setIfInBounds_toArray, List.set_cons_zero, List.set_cons_succ, i64_w, i32_w]
              rfl
            refine pure_ (i := 14) (N := some 126) (v := ?_) (a' := ?_) #[true, true, true, true, true, true, true, true, true, true, true, true, true, true, true, false, true, true, true, true, false, false, false, false] rfl rfl (by kernel_rfl) (fun _ _ _ h => h) (Or.inl ⟨by rfl, ?_⟩) ?_ ?_
            rotate_left
            · intro w'
              go_simp
              with_reducible rfl
            rotate_left
            · simp only [Act.put, List.setIfInBounds_toArray, List.set_cons_zero, List.set_cons_succ, i64_w, i32_w]
              rfl
            refine take_ (i := 15) (N := some 127) (v := ?_) (a' := ?_) #[true, true, true, true, true, true, true, true, true, true, true, true, true, true, true, true, true, true, true, true, false, false, false, false] rfl rfl (by kernel_rfl) (fun _ _ _ h => h) (Or.inl ⟨by rfl, ?_⟩) hHeld ?_ ?_
            rotate_left
            · rintro w' ⟨s0, s1, s2, s3⟩
              go_simp
              with_reducible rfl
            rotate_left
            · simp only [Act.put, List.setIfInBounds_toArray, List.set_cons_zero, List.set_cons_succ, i64_w, i32_w]
              rfl
            refine take_ (i := 20) (N := some 132) (v := ?_) (a' := ?_) #[true, true, true, true, true, true, true, true, true, true, true, true, true, true, true, true, true, true, true, true, true, false, false, false] rfl rfl (by kernel_rfl) (fun _ _ _ h => h) (Or.inl ⟨by rfl, ?_⟩) hHeld ?_ ?_
            rotate_left
            · rintro w' ⟨s0, s1, s2, s3⟩
              go_simp
              with_reducible rfl
            rotate_left
            · simp only [Act.put, List.setIfInBounds_toArray, List.set_cons_zero, List.set_cons_succ, i64_w, i32_w]
              rfl
            refine one_ (i := 21) (N := some 133) #[true, true, true, true, true, true, true, true, true, true, true, true, true, true, true, true, true, true, true, true, true, true, false, false] rfl rfl (by kernel_rfl) (by decide) (fun K hK => ?_)
            refine goes_ Tryd.func11 (by kernel_rfl) rfl #[.slice a3 m3 d3] (by rfl) rfl rfl (by simp only [List.map_toArray, List.map_cons, List.map_nil]; rfl) ?_
            with_reducible refine ((SX3.out _ hHeld.2.2.2)).mono ?_
            rintro e' ws3 ⟨rfl, bs3⟩
            refine ⟨_, rfl, ?_⟩
            refine hK.out _ _ ⟨(below_cell bs3 hHeld.1), (below_cell bs3 hHeld.2.1), (CW.out _ (below_then hHeld.2.2.2 bs3)), (below_then hHeld.2.2.2 bs3)⟩ (fun hHeld => ?_)
            clear hK K
            refine norm_ (a' := ?_) ?_ ?_
            rotate_left
            · show Act.put _ (some 133) _ = _
              simp only [Act.put, List.setIfInBounds_toArray, List.set_cons_zero, List.set_cons_succ, i64_w, i32_w]
              rfl
            refine pure_ (i := 22) (N := some 134) (v := ?_) (a' := ?_) #[true, true, true, true, true, true, true, true, true, true, true, true, true, true, true, true, true, true, true, true, true, true, true, false] rfl rfl (by kernel_rfl) (fun _ _ _ h => h) (Or.inl ⟨by rfl, ?_⟩) ?_ ?_
            rotate_left
            · intro w'
              go_simp
              with_reducible rfl
            rotate_left
            · simp only [Act.put, List.setIfInBounds_toArray, List.set_cons_zero, List.set_cons_succ, i64_w, i32_w]
              rfl
            refine pure_ (i := 23) (N := some 135) (v := ?_) (a' := ?_) #[true, true, true, true, true, true, true, true, true, true, true, true, true, true, true, true, true, true, true, true, true, true, true, true] rfl rfl (by kernel_rfl) (fun _ _ _ h => h) (Or.inl ⟨by rfl, ?_⟩) ?_ ?_
            rotate_left
            · intro w'
              go_simp
              with_reducible rfl
            rotate_left
            · simp only [Act.put, List.setIfInBounds_toArray, List.set_cons_zero, List.set_cons_succ, i64_w, i32_w]
              rfl
            refine done_ (by kernel_rfl) ?_
            have B12 := hid hHeld.2.2.2
            have B3 := hid (Bb.out.trans (B12.out.mono Bb.out.size))
            clear ci cj CW SX3 cr' B12 i1 i2 wj t8 tb Z2 Z3 Ba Bb
            go_wp2
            go_roundw
            case rel => exact ⟨k + 1, HLT.out, by have := HI.out; go_num, B3⟩
            case measure => have := HI.out; have := HLT.out; simp [intOf]; omega
        · obtain rfl : k = ns := by omega
          have lt1 : ¬ ((i : Int) + 1 < (k : Int) + 2) := by omega
          have BF := below_then BB.out hB.out
          clear hik
          go_wp2
          go_ret
          exact ⟨rfl, BF⟩
  · have hd : decide (SmallL l) = false := by simp [hsm]
    have HD := hid hd
    clear hsm hd
    go_enter Tryd.func4, Tryd.ntmps4
    have HC1 := hid (vlink_any TT.out)
    go_wp2_with fail
    refine HC1.out.mono ?_
    rintro e w1 ⟨rfl, b1⟩
    clear HC1
    replace TT := hid (TT.out.below b1)
    replace AA := hid (AA.out.below b1)
    replace SB := hid (SB.out.below b1)
    replace BB := hid (below_then BB.out b1)
    clear b1
    have S0 := small_any HN.out AA.out HC.out.1 HC.out.2
    rw [HD.out] at S0
    have S1 := hid S0
    clear S0
    go_wp2_with fail
    refine S1.out.mono ?_
    rintro e w2 ⟨rfl, rfl⟩
    clear S1
    have HC2 := hid (vlink_any TT.out)
    go_wp2_with fail
    refine HC2.out.mono ?_
    rintro e w3 ⟨rfl, b3⟩
    clear HC2
    replace TT := hid (TT.out.below b3)
    replace AA := hid (AA.out.below b3)
    replace SB := hid (SB.out.below b3)
    replace BB := hid (below_then BB.out b3)
    clear b3
    go_wp2
    go_ret
    exact ⟨rfl, BB.out⟩
end Go.Proofs.YtcfjciencggflaaDoor
