/- WalTorn: frames that are cut, or of which a byte is turned: just those ahead are found. -/
import Derived.Test.YtponofojildbmaaDoorLawWalScans
import Derived.Test.YtponofojildbmaaDoorMade
import Derived.Test.YtponofojildbmaaDoorOpen
import Derived.Laws.BitsAllLaws
set_option linter.unusedVariables false
set_option linter.unusedSimpArgs false
namespace Go.Proofs.YtponofojildbmaaDoor
open Go.RowKit Go.ChangeShapes Go.WideShapes Go.Deep PrintLast

theorem torn_cut (ls : List (List UInt8)) (j k : Nat) (hj : j < ls.length) (h1 : (allB (ls.take j)).length ≤ k) (h2 : k < (allB (ls.take (j + 1))).length) (hs : ∀ x ∈ ls, x.length ≤ 1048576) :
    scanB ((allB ls).take k) = (ls.take j, (allB (ls.take j)).length) := by
  have e0 : allB ls = allB (ls.take (j + 1)) ++ allB (ls.drop (j + 1)) := by
    unfold allB
    rw [← List.flatMap_append, List.take_append_drop]
  have e1 : allB (ls.take (j + 1)) = allB (ls.take j) ++ frameB ls[j] := by
    unfold allB
    rw [List.take_succ_eq_append_getElem hj, List.flatMap_append]
    simp
  rw [e1, List.length_append] at h2
  rw [e0, List.take_append_of_le_length (by rw [e1, List.length_append]; omega), e1, List.take_append, List.take_of_length_le h1,
    scan_frames _ _ (fun x hx => hs x (List.mem_of_mem_take hx)),
    scanB_none (next_cut _ _ (hs _ (List.getElem_mem hj)) (by omega))]
  simp
theorem torn_turn (ls : List (List UInt8)) (j k : Nat) (v : UInt8) (h1 : (allB (ls.take j)).length ≤ k) (hs : ∀ x ∈ ls, x.length ≤ 1048576) :
    ∃ r, (scanB ((allB ls).set k v)).1 = ls.take j ++ r := by
  have e0 : allB ls = allB (ls.take j) ++ allB (ls.drop j) := by
    unfold allB
    rw [← List.flatMap_append, List.take_append_drop]
  rw [e0, List.set_append_right _ _ h1, scan_frames _ _ (fun x hx => hs x (List.mem_of_mem_take hx))]
  exact ⟨_, rfl⟩
theorem xor_u8 (a b : UInt8) : bits .xor .u8 (a.toNat : Int) (b.toNat : Int) = ((a ^^^ b).toNat : Int) := by
  have h := u8_xor_nat a.toNat b.toNat a.toNat_lt b.toNat_lt
  rw [h, UInt8.toNat_xor]
theorem cellKeeps' (w : World) (g k : Nat) (u : Value) : Keeps (fun j => j = g) w (w.setCell ⟨g, k, none⟩ u) := (Keeps.refl (fun j => j = g) w).setCell (p := ⟨g, k, none⟩) (fun _ => rfl) u
theorem texts_take (ps : List Part) (k : Nat) : texts (ps.take k) = (texts ps).take k := by simp [texts, List.map_take]

set_option maxRecDepth 100000 in
set_option maxHeartbeats 12800000 in
theorem torn_walk {w : World} (hT : Table w) {B : Option Addr} {d : Nat} {zs : List Part} {at' turn : Int} (hz : zs.length ≤ d ∧ d ≤ maxLen ∧ PartsAt w B zs) (ha : (Lit.int .u16 at').wf = true) (ht : (Lit.int .u8 turn).wf = true) :
    Calls Tryd.prog 5 #[.slice B zs.length d, .int .u16 at', .int .u8 turn] w fun e w' => e = .returned (.bool true) ∧ Below w.heap.size w w' := by
  obtain ⟨z1, z2, hZ⟩ := hz
  obtain ⟨u, rfl⟩ : ∃ b8 : UInt8, turn = (b8.toNat : Int) := ⟨UInt8.ofNat turn.toNat, (u8_of_int ht).symm⟩
  have ha' := bounds_u16 ha
  obtain ⟨at', rfl⟩ : ∃ N : Nat, at' = (N : Int) := ⟨at'.toNat, by omega⟩
  clear ha ht
  by_cases hsm : smallB (texts zs)
  · have hab := all_bound _ hsm
    have h20 : zs.length ≤ 20 := by have := hsm.2; rwa [texts_length] at this
    have hts : decide (smallB (texts zs)) = true := by simp [hsm]
    obtain ⟨n, hn⟩ : ∃ n, n = zs.length := ⟨_, rfl⟩
    have HN := hid hn
    obtain ⟨F, hF⟩ : ∃ F, Hid (F = allB (texts zs)) := ⟨_, hid rfl⟩
    have hFb : F.length ≤ 1360 := by rw [hF.out]; exact hab
    have h60 : ∀ x ∈ texts zs, x.length ≤ 60 := hsm.1
    have HS6 := hid (fun x hx => show List.length x ≤ 1000000 by have := h60 x hx; omega)
    have HS20 := hid (fun x hx => show List.length x ≤ 1048576 by have := h60 x hx; omega)
    have hT' := hid hT
    have H := hid (both_any hT)
    have z2' : d ≤ 9223372036854775807 := by unfold maxLen at z2; omega
    clear hT hsm h60 hab
    go_enter Tryd.func5, Tryd.ntmps5
    go_wp2_with fail
    refine H.out.mono ?_
    rintro e w1 ⟨rfl, B1⟩
    replace hZ := hZ.below B1
    have H0 := small_any hZ ⟨z1, z2⟩
    rw [hts] at H0
    have H := hid H0
    clear H0 hts
    go_wp2_with fail
    refine H.out.mono ?_
    rintro e w2 ⟨rfl, rfl⟩
    have H := hid (all_any (c := d) hZ HS6.out (by rw [← hF.out]; omega) (by omega))
    go_wp2_with fail
    refine H.out.mono ?_
    rintro e w2 ⟨A2, c2, rfl, r2, b2⟩
    rw [← hF.out] at r2 ⊢
    have B2 := below_then B1 b2
    replace hZ := hZ.below b2
    replace r2 := r2.lower B1.size
    clear B1 b2 H
    obtain ⟨f, hf⟩ : ∃ f, f = F.length := ⟨_, rfl⟩
    have HF := hid hf
    rw [← hf] at hFb ⊢
    clear hf
    rw [← hn] at z1 h20 ⊢
    clear hn
    by_cases hf0 : f = 0
    · have t0 : ((f : Int) == 0) = true := by simp [hf0]
      clear hf0
      go_wp2
      go_ret
      exact ⟨rfl, B2⟩
    · have t0 : ((f : Int) == 0) = false := by simp [hf0]
      obtain ⟨g2, rfl⟩ := r2.place (by rw [← HF.out]; omega)
      obtain ⟨k, hk⟩ : ∃ k, k = at' % f := ⟨_, rfl⟩
      have hkf : k < f := by rw [hk]; exact Nat.mod_lt _ (by omega)
      have tm : (at' : Int).tmod (f : Int) = (k : Int) := by rw [Int.tmod_eq_emod_of_nonneg (by omega), hk]; rfl
      have tm' : (at' : Int) % (f : Int) = (k : Int) := by rw [hk]; rfl
      have E0 : Hid ((allB ((texts zs).take 0)).length ≤ k) := hid (by simp [allB])
      clear hk
      go_wp2
      go_loopw [9] (fun i wr => ∃ j : Nat, j ≤ n ∧ i = .int .i64 j ∧ Hid ((allB ((texts zs).take j)).length ≤ k) ∧ PartsAt wr B zs ∧ Row wr w.heap.size (some ⟨g2, 0, none⟩) c2 F ∧ Below w.heap.size w wr) (fun i _ => n - (intOf i).toNat)
      case atStart => exact ⟨0, Nat.zero_le _, rfl, E0, hZ, r2, B2⟩
      case round =>
        clear E0 hZ r2 B2
        obtain ⟨j, hj, rfl, hE, hZ, r2, hB⟩ := hrel
        have sB := hB.size
        by_cases hlt : j < n
        · have t1 : decide ((j : Int) < (n : Int)) = true := by simp; omega
          have hjz : j + 1 ≤ zs.length := by rw [← HN.out]; exact hlt
          have lt1 : (zs.take (j + 1)).length = j + 1 := by rw [List.length_take]; omega
          have H0 := all_any (c := d) (hZ.take (j + 1)) (by rw [texts_take]; exact fun x hx => HS6.out x (List.mem_of_mem_take hx)) (by rw [texts_take]; have := allB_le (texts zs) (j + 1); rw [← hF.out, ← HF.out] at this; omega) (by rw [lt1]; omega)
          rw [lt1, texts_take] at H0
          have H := hid H0
          have hjd : j + 1 ≤ d := by omega
          clear H0 lt1 hjz
          go_wp2_with fail
          refine H.out.mono ?_
          rintro e w3 ⟨A3, c3, rfl, _, b3⟩
          have B3 := hB.trans (b3.mono sB)
          replace hZ := hZ.below b3
          replace r2 := r2.below b3
          obtain ⟨q, hq⟩ : ∃ q, q = (allB ((texts zs).take (j + 1))).length := ⟨_, rfl⟩
          have HQ := hid hq
          rw [← hq]
          clear hq hB b3 H
          by_cases hle : q ≤ k
          · have t2 : decide ((q : Int) ≤ (k : Int)) = true := by simp; omega
            have hE' : Hid ((allB ((texts zs).take (j + 1))).length ≤ k) := hid (by rw [← HQ.out]; exact hle)
            clear hE
            go_wp2
            go_roundw
            case rel => exact ⟨j + 1, by omega, by go_num, hE', hZ, r2, B3⟩
            case measure => simp [intOf]; omega
          · have t2 : decide ((q : Int) ≤ (k : Int)) = false := by simp; omega
            -- the loop is left: j frames stand whole ahead of k
            have hjt : j < (texts zs).length := by rw [texts_length, ← HN.out]; exact hlt
            have CUT := hid (torn_cut (texts zs) j k hjt hE.out (by rw [← HQ.out]; omega) HS20.out)
            rw [← hF.out] at CUT
            have lk : (F.take k).length = k := by rw [List.length_take, ← HF.out]; omega
            have lj : ((texts zs).take j).length = j := by rw [List.length_take]; omega
            obtain ⟨aj, haj⟩ : ∃ a, a = (allB ((texts zs).take j)).length := ⟨_, rfl⟩
            rw [← haj] at CUT
            have hkc : k ≤ c2 := by have := r2.bsa.1; rw [← HF.out] at this; omega
            have hc2 := r2.bsa.2.1
            unfold maxLen at hc2
            have sB3 := B3.size
            have H0 := scan_any (hT'.out.below B3) (r2.bsa.head k) (.inr ⟨g2, rfl⟩) (by rw [lk]; omega)
            rw [lk] at H0
            have H := hid H0
            have LJ := hid lj
            have HAJ := hid haj
            clear H0 lk lj haj hjt
            go_wp2_with fail
            refine H.out.mono ?_
            rintro e w4 ⟨R4, c4, ps, rfl, lp, hps, b4⟩
            have B4 := B3.trans (b4.mono sB3)
            replace hZ := hZ.below b4
            replace r2 := r2.below b4
            replace lp := lp.lower sB3
            rw [CUT.out] at hps ⊢
            have HPS := hid hps
            have H := hid (join_gave (n2 := 0) HF.out.symm rfl (List.append_nil F) r2.bsa (BSA.nil w4) (by rw [← HF.out]; omega))
            have sB4 := B4.size
            clear hps B3 b4 sB3
            go_wp2_with fail
            refine H.out.mono ?_
            rintro e w5 ⟨A5, c5, rfl, r5, b5⟩
            have B5 := B4.trans (b5.mono sB4)
            rw [← HF.out]
            obtain ⟨g5, rfl⟩ := r5.place (by rw [← HF.out]; omega)
            have hkF : k < F.length := by rw [← HF.out]; exact hkf
            have ck := r5.bsa.2.2.2 _ rfl k hkF
            rw [add_plain] at ck
            obtain ⟨cur, hg5, hcur, hbase⟩ := r5.heap
            have fk := free_at hg5 k
            obtain ⟨x, hx⟩ : ∃ x, x = F[k] := ⟨_, rfl⟩
            rw [← hx] at ck
            obtain ⟨y, hy⟩ : ∃ y, y = x ^^^ u := ⟨_, rfl⟩
            have xr : bits .xor .u8 (x.toNat : Int) (u.toNat : Int) = (y.toNat : Int) := by rw [hy]; exact xor_u8 x u
            have R6 := r5.set k y
            have hb5 : w.heap.size ≤ g5 := by omega
            have B6 := B5.setCell (p := ⟨g5, k, none⟩) hb5 (.int .u8 (y.toNat : Int))
            have b6 : Below w4.heap.size w4 (w5.setCell ⟨g5, k, none⟩ (.int .u8 (y.toNat : Int))) := b5.setCell (p := ⟨g5, k, none⟩) hbase (.int .u8 (y.toNat : Int))
            have hc5 : f ≤ c5 := by have := r5.bsa.1; rw [← HF.out] at this; exact this
            have hZ6 := hZ.below b6
            have lp6 := lp.below b6
            obtain ⟨Q, hQ⟩ : ∃ Q, Q = F.set k y := ⟨_, rfl⟩
            have lQ : Q.length = f := by rw [hQ, List.length_set, HF.out]
            rw [← hQ] at R6
            obtain ⟨r, hr⟩ := torn_turn (texts zs) j k y hE.out HS20.out
            rw [← hF.out, ← hQ] at hr
            have HR := hid hr
            have H := hid (scan_gave (hT'.out.below B6) lQ R6 (by omega))
            have hkc5 : k < c5 := by omega
            have HB6 := hid B6
            have HZ6 := hid hZ6
            have LP6 := hid lp6
            have HR6 := hid R6
            have lps : ps.length = j := by have := congrArg List.length HPS.out; rw [LJ.out] at this; simpa using this
            rw [lps]
            have LPS := hid lps
            clear hr hQ hx hy B6 b6 hZ6 lp6 R6 hcur hbase hg5 r5 b5 B4 B5 hZ r2 lp hkF hb5 lps
            go_wp2_with fail
            refine H.out.mono ?_
            rintro e w7 ⟨S7, cS, qs, rfl, lq, hqs, b7⟩
            have B7 := HB6.out.trans (b7.mono HB6.out.size)
            have hZ7 := HZ6.out.below b7
            have lp7 := LP6.out.below b7
            have R7 := HR6.out.below b7
            have H := hid (rscan_gave lQ R7 (by omega))
            have HQS := hid hqs
            clear hqs b7 HB6 HZ6 LP6 HR6 ck fk xr
            go_wp2_with fail
            refine H.out.mono ?_
            rintro e w8 ⟨S8, cT, rs, rfl, lr, hrs, b8⟩
            have B8 := B7.trans (b8.mono B7.size)
            have hZ8 := hZ7.below b8
            have lp8 := (lp7.below b8).parts
            have lq8 := (lq.below b8).parts
            have lr8 := lr.parts
            have hcS := lq.cap.1
            obtain ⟨m, hm⟩ : ∃ m, m = (scanB Q).1.length := ⟨_, rfl⟩
            have lqs : qs.length = m := by rw [hm, ← HQS.out]; simp
            have lrs : rs.length = m := by rw [hm, ← hrs]; simp
            have hjm : j ≤ m := by rw [hm, HR.out, List.length_append, LJ.out]; omega
            have hmf : m ≤ 2000 := by rw [hm]; have := scan_few Q; omega
            rw [lqs, lrs]
            have F1 := hid (fun (w' : World) (h1 : PartsAt w' R4 ps) (h2 : PartsAt w' B zs) => show Calls Tryd.prog 17 #[.slice R4 j c4, .slice B j d] w' fun e w'' => e = .returned (.bool true) ∧ Below w'.heap.size w' w'' by
              have lz : (zs.take j).length = j := by rw [List.length_take, ← HN.out]; omega
              have H0 := same_any (c := c4) (d := d) h1 (h2.take j) (by rw [LPS.out]; omega) (by rw [lz]; omega)
              have e0 : decide (texts ps = texts (zs.take j)) = true := by
                rw [decide_eq_true_iff, texts_take]
                exact HPS.out
              rw [e0, LPS.out, lz] at H0
              exact H0)
            have F2 := hid (fun (w' : World) (h2 : PartsAt w' B zs) => show Calls Tryd.prog 19 #[.slice B j d] w' fun e w'' => ∃ A' c', e = .returned (.slice A' aj c') ∧ Below w'.heap.size w' w'' by
              have lz : (zs.take j).length = j := by rw [List.length_take, ← HN.out]; omega
              have H0 := all_any (c := d) (h2.take j) (by rw [texts_take]; exact fun x hx => HS6.out x (List.mem_of_mem_take hx)) (by rw [texts_take, ← HAJ.out]; have := hE.out; rw [← HAJ.out] at this; omega) (by rw [lz]; omega)
              rw [texts_take, lz] at H0
              refine H0.mono ?_
              rintro e w'' ⟨A', c', rfl, _, b⟩
              exact ⟨A', c', by rw [← HAJ.out], b⟩)
            have F3 := hid (fun (w' : World) (h1 : PartsAt w' S7 qs) (h2 : PartsAt w' S8 rs) => show Calls Tryd.prog 17 #[.slice S7 m cS, .slice S8 m cT] w' fun e w'' => e = .returned (.bool true) ∧ Below w'.heap.size w' w'' by
              have H0 := same_any (c := cS) (d := cT) h1 h2 (by rw [lqs]; omega) (by rw [lrs]; omega)
              have e0 : decide (texts qs = texts rs) = true := by
                rw [decide_eq_true_iff]
                show qs.map (·.2.2) = rs.map (·.2.2)
                rw [HQS.out, hrs]
              rw [e0, lqs, lrs] at H0
              exact H0)
            have F4 := hid (fun (w' : World) (h1 : PartsAt w' S7 qs) (h2 : PartsAt w' B zs) => show Calls Tryd.prog 17 #[.slice S7 j cS, .slice B j d] w' fun e w'' => e = .returned (.bool true) ∧ Below w'.heap.size w' w'' by
              have lz : (zs.take j).length = j := by rw [List.length_take, ← HN.out]; omega
              have ly : (qs.take j).length = j := by rw [List.length_take, lqs]; omega
              have H0 := same_any (c := cS) (d := d) (h1.take j) (h2.take j) (by rw [ly]; omega) (by rw [lz]; omega)
              have e0 : decide (texts (qs.take j) = texts (zs.take j)) = true := by
                rw [decide_eq_true_iff, texts_take, texts_take]
                have h3 : texts qs = (texts zs).take j ++ r := by show qs.map (·.2.2) = _; rw [HQS.out, HR.out]
                rw [h3, List.take_append_of_le_length (by rw [LJ.out]; omega), List.take_of_length_le (by rw [LJ.out]; omega)]
              rw [e0, lz, ly] at H0
              exact H0)
            rw [lqs] at hcS
            have t7 : decide ((j : Int) ≤ (m : Int)) = true := by simp; omega
            have t8 : ((aj : Int) == (aj : Int)) = true := by simp
            clear B7 hZ7 lp7 R7 lq lr lqs lrs hrs b8 hm H HQS
            by_cases hu : u = 0
            · have tu : ((u.toNat : Int) == 0) = true := by rw [hu]; rfl
              have u1 : (j ≤ d) = True := eq_true (by omega)
              have u2 : ((j : Int) ≤ (d : Int)) = True := eq_true (by omega)
              have u3 : (j ≤ cS) = True := eq_true (by omega)
              have u4 : ((j : Int) ≤ (cS : Int)) = True := eq_true (by have := u3; omega)
              clear hu
              go_wp2
              refine start_ (n := 39) (S := fun w' => PartsAt w' R4 ps ∧ PartsAt w' B zs ∧ PartsAt w' S7 qs ∧ PartsAt w' S8 rs ∧ Below w.heap.size w w') (ds := []) #[false, false, false, false, false, false, false, false, false, false, false, false, false, false, false, false, false, false, false, false, false, false, false, false, false, false, false, false, false, false, false, false, false, false, false, false, false, false, false] (by kernel_rfl) rfl rfl ⟨lp8, hZ8, lq8, lr8, B8.drew⟩ (fun hHeld => ?_)
              refine pure_ (i := 0) (N := some 77) (v := ?_) (a' := ?_) #[true, false, false, false, false, false, false, false, false, false, false, false, false, false, false, false, false, false, false, false, false, false, false, false, false, false, false, false, false, false, false, false, false, false, false, false, false, false, false] rfl rfl (by kernel_rfl) (fun _ _ _ h => h) (Or.inl ⟨by rfl, ?_⟩) ?_ ?_
              rotate_left
              · intro w'
                go_simp
                with_reducible rfl
              rotate_left
              · simp only [Act.put, List.setIfInBounds_toArray, List.set_cons_zero, List.set_cons_succ, i64_w, i32_w]
                rfl
              refine pure_ (i := 1) (N := some 78) (v := ?_) (a' := ?_) #[true, true, false, false, false, false, false, false, false, false, false, false, false, false, false, false, false, false, false, false, false, false, false, false, false, false, false, false, false, false, false, false, false, false, false, false, false, false, false] rfl rfl (by kernel_rfl) (fun _ _ _ h => h) (Or.inl ⟨by rfl, ?_⟩) ?_ ?_
              rotate_left
              · intro w'
                go_simp
                with_reducible rfl
              rotate_left
              · simp only [Act.put, List.setIfInBounds_toArray, List.set_cons_zero, List.set_cons_succ, i64_w, i32_w]
                rfl
              refine pure_ (i := 2) (N := some 79) (v := ?_) (a' := ?_) #[true, true, true, false, false, false, false, false, false, false, false, false, false, false, false, false, false, false, false, false, false, false, false, false, false, false, false, false, false, false, false, false, false, false, false, false, false, false, false] rfl rfl (by kernel_rfl) (fun _ _ _ h => h) (Or.inl ⟨by rfl, ?_⟩) ?_ ?_
              rotate_left
              · intro w'
                go_simp
                with_reducible rfl
              rotate_left
              · simp only [Act.put, List.setIfInBounds_toArray, List.set_cons_zero, List.set_cons_succ, i64_w, i32_w]
                rfl
              refine pure_ (i := 3) (N := some 80) (v := ?_) (a' := ?_) #[true, true, true, true, false, false, false, false, false, false, false, false, false, false, false, false, false, false, false, false, false, false, false, false, false, false, false, false, false, false, false, false, false, false, false, false, false, false, false] rfl rfl (by kernel_rfl) (fun _ _ _ h => h) (Or.inl ⟨by rfl, ?_⟩) ?_ ?_
              rotate_left
              · intro w'
                go_simp
                with_reducible rfl
              rotate_left
              · simp only [Act.put, List.setIfInBounds_toArray, List.set_cons_zero, List.set_cons_succ, i64_w, i32_w]
                rfl
              refine one_ (i := 4) (N := some 81) #[true, true, true, true, true, false, false, false, false, false, false, false, false, false, false, false, false, false, false, false, false, false, false, false, false, false, false, false, false, false, false, false, false, false, false, false, false, false, false] rfl rfl (by kernel_rfl) (by decide) (fun K hK => ?_)
              refine goes_ Tryd.func17 (by kernel_rfl) rfl #[.slice R4 j c4, .slice B j d] (by rfl) rfl rfl (by simp only [List.map_toArray, List.map_cons, List.map_nil]; rfl) ?_
              with_reducible refine ((F1.out _ hHeld.1 hHeld.2.1)).mono ?_
              rintro e' y1 ⟨rfl, v1⟩
              refine ⟨_, rfl, ?_⟩
              refine hK.out _ _ ⟨(hHeld.1.below v1), (hHeld.2.1.below v1), (hHeld.2.2.1.below v1), (hHeld.2.2.2.1.below v1), (hHeld.2.2.2.2.trans (v1.mono hHeld.2.2.2.2.size))⟩ (fun hHeld => ?_)
              clear hK K
              refine norm_ (a' := ?_) ?_ ?_
              rotate_left
              · show Act.put _ (some 81) _ = _
                simp only [Act.put, List.setIfInBounds_toArray, List.set_cons_zero, List.set_cons_succ, i64_w, i32_w]
                rfl
              refine pure_ (i := 5) (N := some 82) (v := ?_) (a' := ?_) #[true, true, true, true, true, true, false, false, false, false, false, false, false, false, false, false, false, false, false, false, false, false, false, false, false, false, false, false, false, false, false, false, false, false, false, false, false, false, false] rfl rfl (by kernel_rfl) (fun _ _ _ h => h) (Or.inl ⟨by rfl, ?_⟩) ?_ ?_
              rotate_left
              · intro w'
                go_simp
                with_reducible rfl
              rotate_left
              · simp only [Act.put, List.setIfInBounds_toArray, List.set_cons_zero, List.set_cons_succ, i64_w, i32_w]
                rfl
              refine pure_ (i := 6) (N := some 83) (v := ?_) (a' := ?_) #[true, true, true, true, true, true, true, false, false, false, false, false, false, false, false, false, false, false, false, false, false, false, false, false, false, false, false, false, false, false, false, false, false, false, false, false, false, false, false] rfl rfl (by kernel_rfl) (fun _ _ _ h => h) (Or.inl ⟨by rfl, ?_⟩) ?_ ?_
              rotate_left
              · intro w'
                go_simp
                with_reducible rfl
              rotate_left
              · simp only [Act.put, List.setIfInBounds_toArray, List.set_cons_zero, List.set_cons_succ, i64_w, i32_w]
                rfl
              refine pure_ (i := 7) (N := some 84) (v := ?_) (a' := ?_) #[true, true, true, true, true, true, true, true, false, false, false, false, false, false, false, false, false, false, false, false, false, false, false, false, false, false, false, false, false, false, false, false, false, false, false, false, false, false, false] rfl rfl (by kernel_rfl) (fun _ _ _ h => h) (Or.inl ⟨by rfl, ?_⟩) ?_ ?_
              rotate_left
              · intro w'
                go_simp
                with_reducible rfl
              rotate_left
              · simp only [Act.put, List.setIfInBounds_toArray, List.set_cons_zero, List.set_cons_succ, i64_w, i32_w]
                rfl
              refine pure_ (i := 8) (N := some 85) (v := ?_) (a' := ?_) #[true, true, true, true, true, true, true, true, true, false, false, false, false, false, false, false, false, false, false, false, false, false, false, false, false, false, false, false, false, false, false, false, false, false, false, false, false, false, false] rfl rfl (by kernel_rfl) (fun _ _ _ h => h) (Or.inl ⟨by rfl, ?_⟩) ?_ ?_
              rotate_left
              · intro w'
                go_simp
                with_reducible rfl
              rotate_left
              · simp only [Act.put, List.setIfInBounds_toArray, List.set_cons_zero, List.set_cons_succ, i64_w, i32_w]
                rfl
              refine pure_ (i := 9) (N := some 86) (v := ?_) (a' := ?_) #[true, true, true, true, true, true, true, true, true, true, false, false, false, false, false, false, false, false, false, false, false, false, false, false, false, false, false, false, false, false, false, false, false, false, false, false, false, false, false] rfl rfl (by kernel_rfl) (fun _ _ _ h => h) (Or.inl ⟨by rfl, ?_⟩) ?_ ?_
              rotate_left
              · intro w'
                go_simp
                with_reducible rfl
              rotate_left
              · simp only [Act.put, List.setIfInBounds_toArray, List.set_cons_zero, List.set_cons_succ, i64_w, i32_w]
                rfl
              refine one_ (i := 10) (N := some 87) #[true, true, true, true, true, true, true, true, true, true, true, false, false, false, false, false, false, false, false, false, false, false, false, false, false, false, false, false, false, false, false, false, false, false, false, false, false, false, false] rfl rfl (by kernel_rfl) (by decide) (fun K hK => ?_)
              refine goes_ Tryd.func19 (by kernel_rfl) rfl #[.slice B j d] (by rfl) rfl rfl (by simp only [List.map_toArray, List.map_cons, List.map_nil]; rfl) ?_
              with_reducible refine ((F2.out _ hHeld.2.1)).mono ?_
              rintro e' y2 ⟨Ay, cy, rfl, v2⟩
              refine ⟨_, rfl, ?_⟩
              refine hK.out _ _ ⟨(hHeld.1.below v2), (hHeld.2.1.below v2), (hHeld.2.2.1.below v2), (hHeld.2.2.2.1.below v2), (hHeld.2.2.2.2.trans (v2.mono hHeld.2.2.2.2.size))⟩ (fun hHeld => ?_)
              clear hK K
              refine norm_ (a' := ?_) ?_ ?_
              rotate_left
              · show Act.put _ (some 87) _ = _
                simp only [Act.put, List.setIfInBounds_toArray, List.set_cons_zero, List.set_cons_succ, i64_w, i32_w]
                rfl
              refine pure_ (i := 11) (N := some 88) (v := ?_) (a' := ?_) #[true, true, true, true, true, true, true, true, true, true, true, true, false, false, false, false, false, false, false, false, false, false, false, false, false, false, false, false, false, false, false, false, false, false, false, false, false, false, false] rfl rfl (by kernel_rfl) (fun _ _ _ h => h) (Or.inl ⟨by rfl, ?_⟩) ?_ ?_
              rotate_left
              · intro w'
                go_simp
                with_reducible rfl
              rotate_left
              · simp only [Act.put, List.setIfInBounds_toArray, List.set_cons_zero, List.set_cons_succ, i64_w, i32_w]
                rfl
              refine pure_ (i := 12) (N := some 89) (v := ?_) (a' := ?_) #[true, true, true, true, true, true, true, true, true, true, true, true, true, false, false, false, false, false, false, false, false, false, false, false, false, false, false, false, false, false, false, false, false, false, false, false, false, false, false] rfl rfl (by kernel_rfl) (fun _ _ _ h => h) (Or.inl ⟨by rfl, ?_⟩) ?_ ?_
              rotate_left
              · intro w'
                go_simp
                with_reducible rfl
              rotate_left
              · simp only [Act.put, List.setIfInBounds_toArray, List.set_cons_zero, List.set_cons_succ, i64_w, i32_w]
                rfl
              refine pure_ (i := 13) (N := some 90) (v := ?_) (a' := ?_) #[true, true, true, true, true, true, true, true, true, true, true, true, true, true, false, false, false, false, false, false, false, false, false, false, false, false, false, false, false, false, false, false, false, false, false, false, false, false, false] rfl rfl (by kernel_rfl) (fun _ _ _ h => h) (Or.inl ⟨by rfl, ?_⟩) ?_ ?_
              rotate_left
              · intro w'
                go_simp
                with_reducible rfl
              rotate_left
              · simp only [Act.put, List.setIfInBounds_toArray, List.set_cons_zero, List.set_cons_succ, i64_w, i32_w]
                rfl
              refine pure_ (i := 14) (N := some 91) (v := ?_) (a' := ?_) #[true, true, true, true, true, true, true, true, true, true, true, true, true, true, true, false, false, false, false, false, false, false, false, false, false, false, false, false, false, false, false, false, false, false, false, false, false, false, false] rfl rfl (by kernel_rfl) (fun _ _ _ h => h) (Or.inl ⟨by rfl, ?_⟩) ?_ ?_
              rotate_left
              · intro w'
                go_simp
                with_reducible rfl
              rotate_left
              · simp only [Act.put, List.setIfInBounds_toArray, List.set_cons_zero, List.set_cons_succ, i64_w, i32_w]
                rfl
              refine pure_ (i := 15) (N := some 92) (v := ?_) (a' := ?_) #[true, true, true, true, true, true, true, true, true, true, true, true, true, true, true, true, false, false, false, false, false, false, false, false, false, false, false, false, false, false, false, false, false, false, false, false, false, false, false] rfl rfl (by kernel_rfl) (fun _ _ _ h => h) (Or.inl ⟨by rfl, ?_⟩) ?_ ?_
              rotate_left
              · intro w'
                go_simp
                with_reducible rfl
              rotate_left
              · simp only [Act.put, List.setIfInBounds_toArray, List.set_cons_zero, List.set_cons_succ, i64_w, i32_w]
                rfl
              refine pure_ (i := 16) (N := some 93) (v := ?_) (a' := ?_) #[true, true, true, true, true, true, true, true, true, true, true, true, true, true, true, true, true, false, false, false, false, false, false, false, false, false, false, false, false, false, false, false, false, false, false, false, false, false, false] rfl rfl (by kernel_rfl) (fun _ _ _ h => h) (Or.inl ⟨by rfl, ?_⟩) ?_ ?_
              rotate_left
              · intro w'
                go_simp
                with_reducible rfl
              rotate_left
              · simp only [Act.put, List.setIfInBounds_toArray, List.set_cons_zero, List.set_cons_succ, i64_w, i32_w]
                rfl
              refine one_ (i := 17) (N := some 94) #[true, true, true, true, true, true, true, true, true, true, true, true, true, true, true, true, true, true, false, false, false, false, false, false, false, false, false, false, false, false, false, false, false, false, false, false, false, false, false] rfl rfl (by kernel_rfl) (by decide) (fun K hK => ?_)
              refine goes_ Tryd.func17 (by kernel_rfl) rfl #[.slice S7 m cS, .slice S8 m cT] (by rfl) rfl rfl (by simp only [List.map_toArray, List.map_cons, List.map_nil]; rfl) ?_
              with_reducible refine ((F3.out _ hHeld.2.2.1 hHeld.2.2.2.1)).mono ?_
              rintro e' y3 ⟨rfl, v3⟩
              refine ⟨_, rfl, ?_⟩
              have B9 := hHeld.2.2.2.2.trans (v3.mono hHeld.2.2.2.2.size)
              refine hK.out _ _ ⟨(hHeld.1.below v3), (hHeld.2.1.below v3), (hHeld.2.2.1.below v3), (hHeld.2.2.2.1.below v3), (hHeld.2.2.2.2.trans (v3.mono hHeld.2.2.2.2.size))⟩ (fun hHeld => ?_)
              clear hK K
              refine norm_ (a' := ?_) ?_ ?_
              rotate_left
              · show Act.put _ (some 94) _ = _
                simp only [Act.put, List.setIfInBounds_toArray, List.set_cons_zero, List.set_cons_succ, i64_w, i32_w]
                rfl
              refine pure_ (i := 18) (N := some 95) (v := ?_) (a' := ?_) #[true, true, true, true, true, true, true, true, true, true, true, true, true, true, true, true, true, true, true, false, false, false, false, false, false, false, false, false, false, false, false, false, false, false, false, false, false, false, false] rfl rfl (by kernel_rfl) (fun _ _ _ h => h) (Or.inl ⟨by rfl, ?_⟩) ?_ ?_
              rotate_left
              · intro w'
                go_simp
                with_reducible rfl
              rotate_left
              · simp only [Act.put, List.setIfInBounds_toArray, List.set_cons_zero, List.set_cons_succ, i64_w, i32_w]
                rfl
              refine pure_ (i := 19) (N := some 96) (v := ?_) (a' := ?_) #[true, true, true, true, true, true, true, true, true, true, true, true, true, true, true, true, true, true, true, true, false, false, false, false, false, false, false, false, false, false, false, false, false, false, false, false, false, false, false] rfl rfl (by kernel_rfl) (fun _ _ _ h => h) (Or.inl ⟨by rfl, ?_⟩) ?_ ?_
              rotate_left
              · intro w'
                go_simp
                with_reducible rfl
              rotate_left
              · simp only [Act.put, List.setIfInBounds_toArray, List.set_cons_zero, List.set_cons_succ, i64_w, i32_w]
                rfl
              refine pure_ (i := 20) (N := some 97) (v := ?_) (a' := ?_) #[true, true, true, true, true, true, true, true, true, true, true, true, true, true, true, true, true, true, true, true, true, false, false, false, false, false, false, false, false, false, false, false, false, false, false, false, false, false, false] rfl rfl (by kernel_rfl) (fun _ _ _ h => h) (Or.inl ⟨by rfl, ?_⟩) ?_ ?_
              rotate_left
              · intro w'
                go_simp
                with_reducible rfl
              rotate_left
              · simp only [Act.put, List.setIfInBounds_toArray, List.set_cons_zero, List.set_cons_succ, i64_w, i32_w]
                rfl
              refine pure_ (i := 21) (N := some 98) (v := ?_) (a' := ?_) #[true, true, true, true, true, true, true, true, true, true, true, true, true, true, true, true, true, true, true, true, true, true, false, false, false, false, false, false, false, false, false, false, false, false, false, false, false, false, false] rfl rfl (by kernel_rfl) (fun _ _ _ h => h) (Or.inl ⟨by rfl, ?_⟩) ?_ ?_
              rotate_left
              · intro w'
                go_simp
                with_reducible rfl
              rotate_left
              · simp only [Act.put, List.setIfInBounds_toArray, List.set_cons_zero, List.set_cons_succ, i64_w, i32_w]
                rfl
              refine pure_ (i := 22) (N := some 99) (v := ?_) (a' := ?_) #[true, true, true, true, true, true, true, true, true, true, true, true, true, true, true, true, true, true, true, true, true, true, true, false, false, false, false, false, false, false, false, false, false, false, false, false, false, false, false] rfl rfl (by kernel_rfl) (fun _ _ _ h => h) (Or.inl ⟨by rfl, ?_⟩) ?_ ?_
              rotate_left
              · intro w'
                go_simp
                with_reducible rfl
              rotate_left
              · simp only [Act.put, List.setIfInBounds_toArray, List.set_cons_zero, List.set_cons_succ, i64_w, i32_w]
                rfl
              refine pure_ (i := 23) (N := some 100) (v := undef) (a' := ?_) #[true, true, true, true, true, true, true, true, true, true, true, true, true, true, true, true, true, true, true, true, true, true, true, true, false, false, false, false, false, false, false, false, false, false, false, false, false, false, false] rfl rfl (by kernel_rfl) (fun _ _ _ h => h) (Or.inr ⟨by rfl, rfl⟩) ?_ ?_
              rotate_left
              · simp only [Act.put, List.setIfInBounds_toArray, List.set_cons_zero, List.set_cons_succ, i64_w, i32_w]
                rfl
              refine pure_ (i := 24) (N := some 101) (v := undef) (a' := ?_) #[true, true, true, true, true, true, true, true, true, true, true, true, true, true, true, true, true, true, true, true, true, true, true, true, true, false, false, false, false, false, false, false, false, false, false, false, false, false, false] rfl rfl (by kernel_rfl) (fun _ _ _ h => h) (Or.inr ⟨by rfl, rfl⟩) ?_ ?_
              rotate_left
              · simp only [Act.put, List.setIfInBounds_toArray, List.set_cons_zero, List.set_cons_succ, i64_w, i32_w]
                rfl
              refine pure_ (i := 25) (N := some 102) (v := undef) (a' := ?_) #[true, true, true, true, true, true, true, true, true, true, true, true, true, true, true, true, true, true, true, true, true, true, true, true, true, true, false, false, false, false, false, false, false, false, false, false, false, false, false] rfl rfl (by kernel_rfl) (fun _ _ _ h => h) (Or.inr ⟨by rfl, rfl⟩) ?_ ?_
              rotate_left
              · simp only [Act.put, List.setIfInBounds_toArray, List.set_cons_zero, List.set_cons_succ, i64_w, i32_w]
                rfl
              refine pure_ (i := 26) (N := some 103) (v := undef) (a' := ?_) #[true, true, true, true, true, true, true, true, true, true, true, true, true, true, true, true, true, true, true, true, true, true, true, true, true, true, true, false, false, false, false, false, false, false, false, false, false, false, false] rfl rfl (by kernel_rfl) (fun _ _ _ h => h) (Or.inr ⟨by rfl, rfl⟩) ?_ ?_
              rotate_left
              · simp only [Act.put, List.setIfInBounds_toArray, List.set_cons_zero, List.set_cons_succ, i64_w, i32_w]
                rfl
              refine pure_ (i := 27) (N := some 104) (v := undef) (a' := ?_) #[true, true, true, true, true, true, true, true, true, true, true, true, true, true, true, true, true, true, true, true, true, true, true, true, true, true, true, true, false, false, false, false, false, false, false, false, false, false, false] rfl rfl (by kernel_rfl) (fun _ _ _ h => h) (Or.inr ⟨by rfl, rfl⟩) ?_ ?_
              rotate_left
              · simp only [Act.put, List.setIfInBounds_toArray, List.set_cons_zero, List.set_cons_succ, i64_w, i32_w]
                rfl
              refine pure_ (i := 28) (N := some 105) (v := undef) (a' := ?_) #[true, true, true, true, true, true, true, true, true, true, true, true, true, true, true, true, true, true, true, true, true, true, true, true, true, true, true, true, true, false, false, false, false, false, false, false, false, false, false] rfl rfl (by kernel_rfl) (fun _ _ _ h => h) (Or.inr ⟨by rfl, rfl⟩) ?_ ?_
              rotate_left
              · simp only [Act.put, List.setIfInBounds_toArray, List.set_cons_zero, List.set_cons_succ, i64_w, i32_w]
                rfl
              refine pure_ (i := 29) (N := some 106) (v := undef) (a' := ?_) #[true, true, true, true, true, true, true, true, true, true, true, true, true, true, true, true, true, true, true, true, true, true, true, true, true, true, true, true, true, true, false, false, false, false, false, false, false, false, false] rfl rfl (by kernel_rfl) (fun _ _ _ h => h) (Or.inr ⟨by rfl, rfl⟩) ?_ ?_
              rotate_left
              · simp only [Act.put, List.setIfInBounds_toArray, List.set_cons_zero, List.set_cons_succ, i64_w, i32_w]
                rfl
              refine pure_ (i := 30) (N := some 107) (v := undef) (a' := ?_) #[true, true, true, true, true, true, true, true, true, true, true, true, true, true, true, true, true, true, true, true, true, true, true, true, true, true, true, true, true, true, true, false, false, false, false, false, false, false, false] rfl rfl (by kernel_rfl) (fun _ _ _ h => h) (Or.inr ⟨by rfl, rfl⟩) ?_ ?_
              rotate_left
              · simp only [Act.put, List.setIfInBounds_toArray, List.set_cons_zero, List.set_cons_succ, i64_w, i32_w]
                rfl
              refine pure_ (i := 31) (N := some 108) (v := undef) (a' := ?_) #[true, true, true, true, true, true, true, true, true, true, true, true, true, true, true, true, true, true, true, true, true, true, true, true, true, true, true, true, true, true, true, true, false, false, false, false, false, false, false] rfl rfl (by kernel_rfl) (fun _ _ _ h => h) (Or.inr ⟨by rfl, rfl⟩) ?_ ?_
              rotate_left
              · simp only [Act.put, List.setIfInBounds_toArray, List.set_cons_zero, List.set_cons_succ, i64_w, i32_w]
                rfl
              refine pure_ (i := 32) (N := some 109) (v := undef) (a' := ?_) #[true, true, true, true, true, true, true, true, true, true, true, true, true, true, true, true, true, true, true, true, true, true, true, true, true, true, true, true, true, true, true, true, true, false, false, false, false, false, false] rfl rfl (by kernel_rfl) (fun _ _ _ h => h) (Or.inr ⟨by rfl, rfl⟩) ?_ ?_
              rotate_left
              · simp only [Act.put, List.setIfInBounds_toArray, List.set_cons_zero, List.set_cons_succ, i64_w, i32_w]
                rfl
              refine pure_ (i := 33) (N := some 110) (v := undef) (a' := ?_) #[true, true, true, true, true, true, true, true, true, true, true, true, true, true, true, true, true, true, true, true, true, true, true, true, true, true, true, true, true, true, true, true, true, true, false, false, false, false, false] rfl rfl (by kernel_rfl) (fun _ _ _ h => h) (Or.inr ⟨by rfl, rfl⟩) ?_ ?_
              rotate_left
              · simp only [Act.put, List.setIfInBounds_toArray, List.set_cons_zero, List.set_cons_succ, i64_w, i32_w]
                rfl
              refine pure_ (i := 34) (N := some 111) (v := undef) (a' := ?_) #[true, true, true, true, true, true, true, true, true, true, true, true, true, true, true, true, true, true, true, true, true, true, true, true, true, true, true, true, true, true, true, true, true, true, true, false, false, false, false] rfl rfl (by kernel_rfl) (fun _ _ _ h => h) (Or.inr ⟨by rfl, rfl⟩) ?_ ?_
              rotate_left
              · simp only [Act.put, List.setIfInBounds_toArray, List.set_cons_zero, List.set_cons_succ, i64_w, i32_w]
                rfl
              refine pure_ (i := 35) (N := some 112) (v := undef) (a' := ?_) #[true, true, true, true, true, true, true, true, true, true, true, true, true, true, true, true, true, true, true, true, true, true, true, true, true, true, true, true, true, true, true, true, true, true, true, true, false, false, false] rfl rfl (by kernel_rfl) (fun _ _ _ h => h) (Or.inr ⟨by rfl, rfl⟩) ?_ ?_
              rotate_left
              · simp only [Act.put, List.setIfInBounds_toArray, List.set_cons_zero, List.set_cons_succ, i64_w, i32_w]
                rfl
              refine pure_ (i := 36) (N := some 113) (v := ?_) (a' := ?_) #[true, true, true, true, true, true, true, true, true, true, true, true, true, true, true, true, true, true, true, true, true, true, true, true, true, true, true, true, true, true, true, true, true, true, true, true, true, false, false] rfl rfl (by kernel_rfl) (fun _ _ _ h => h) (Or.inl ⟨by rfl, ?_⟩) ?_ ?_
              rotate_left
              · intro w'
                go_simp
                with_reducible rfl
              rotate_left
              · simp only [Act.put, List.setIfInBounds_toArray, List.set_cons_zero, List.set_cons_succ, i64_w, i32_w]
                rfl
              refine pure_ (i := 37) (N := some 114) (v := ?_) (a' := ?_) #[true, true, true, true, true, true, true, true, true, true, true, true, true, true, true, true, true, true, true, true, true, true, true, true, true, true, true, true, true, true, true, true, true, true, true, true, true, true, false] rfl rfl (by kernel_rfl) (fun _ _ _ h => h) (Or.inl ⟨by rfl, ?_⟩) ?_ ?_
              rotate_left
              · intro w'
                go_simp
                with_reducible rfl
              rotate_left
              · simp only [Act.put, List.setIfInBounds_toArray, List.set_cons_zero, List.set_cons_succ, i64_w, i32_w]
                rfl
              refine pure_ (i := 38) (N := some 6) (v := ?_) (a' := ?_) #[true, true, true, true, true, true, true, true, true, true, true, true, true, true, true, true, true, true, true, true, true, true, true, true, true, true, true, true, true, true, true, true, true, true, true, true, true, true, true] rfl rfl (by kernel_rfl) (fun _ _ _ h => h) (Or.inl ⟨by rfl, ?_⟩) ?_ ?_
              rotate_left
              · intro w'
                go_simp
                with_reducible rfl
              rotate_left
              · simp only [Act.put, List.setIfInBounds_toArray, List.set_cons_zero, List.set_cons_succ, i64_w, i32_w]
                rfl
              refine done_ (by kernel_rfl) ?_
              clear F1 F2 F3 F4 lp8 hZ8 lq8 lr8 B8 u1 u2 u3 u4
              go_wp2
              go_ret
              exact ⟨rfl, B9⟩
            · have tu : ((u.toNat : Int) == 0) = false := by
                rw [beq_eq_false_iff_ne]
                intro e
                exact hu (UInt8.toNat_inj.1 (by simpa using e))
              have u1 : (j ≤ d) = True := eq_true (by omega)
              have u2 : ((j : Int) ≤ (d : Int)) = True := eq_true (by omega)
              have u3 : (j ≤ cS) = True := eq_true (by omega)
              have u4 : ((j : Int) ≤ (cS : Int)) = True := eq_true (by have := u3; omega)
              clear hu
              go_wp2
              refine start_ (n := 39) (S := fun w' => PartsAt w' R4 ps ∧ PartsAt w' B zs ∧ PartsAt w' S7 qs ∧ PartsAt w' S8 rs ∧ Below w.heap.size w w') (ds := []) #[false, false, false, false, false, false, false, false, false, false, false, false, false, false, false, false, false, false, false, false, false, false, false, false, false, false, false, false, false, false, false, false, false, false, false, false, false, false, false] (by kernel_rfl) rfl rfl ⟨lp8, hZ8, lq8, lr8, B8.drew⟩ (fun hHeld => ?_)
              refine pure_ (i := 0) (N := some 77) (v := ?_) (a' := ?_) #[true, false, false, false, false, false, false, false, false, false, false, false, false, false, false, false, false, false, false, false, false, false, false, false, false, false, false, false, false, false, false, false, false, false, false, false, false, false, false] rfl rfl (by kernel_rfl) (fun _ _ _ h => h) (Or.inl ⟨by rfl, ?_⟩) ?_ ?_
              rotate_left
              · intro w'
                go_simp
                with_reducible rfl
              rotate_left
              · simp only [Act.put, List.setIfInBounds_toArray, List.set_cons_zero, List.set_cons_succ, i64_w, i32_w]
                rfl
              refine pure_ (i := 1) (N := some 78) (v := ?_) (a' := ?_) #[true, true, false, false, false, false, false, false, false, false, false, false, false, false, false, false, false, false, false, false, false, false, false, false, false, false, false, false, false, false, false, false, false, false, false, false, false, false, false] rfl rfl (by kernel_rfl) (fun _ _ _ h => h) (Or.inl ⟨by rfl, ?_⟩) ?_ ?_
              rotate_left
              · intro w'
                go_simp
                with_reducible rfl
              rotate_left
              · simp only [Act.put, List.setIfInBounds_toArray, List.set_cons_zero, List.set_cons_succ, i64_w, i32_w]
                rfl
              refine pure_ (i := 2) (N := some 79) (v := ?_) (a' := ?_) #[true, true, true, false, false, false, false, false, false, false, false, false, false, false, false, false, false, false, false, false, false, false, false, false, false, false, false, false, false, false, false, false, false, false, false, false, false, false, false] rfl rfl (by kernel_rfl) (fun _ _ _ h => h) (Or.inl ⟨by rfl, ?_⟩) ?_ ?_
              rotate_left
              · intro w'
                go_simp
                with_reducible rfl
              rotate_left
              · simp only [Act.put, List.setIfInBounds_toArray, List.set_cons_zero, List.set_cons_succ, i64_w, i32_w]
                rfl
              refine pure_ (i := 3) (N := some 80) (v := ?_) (a' := ?_) #[true, true, true, true, false, false, false, false, false, false, false, false, false, false, false, false, false, false, false, false, false, false, false, false, false, false, false, false, false, false, false, false, false, false, false, false, false, false, false] rfl rfl (by kernel_rfl) (fun _ _ _ h => h) (Or.inl ⟨by rfl, ?_⟩) ?_ ?_
              rotate_left
              · intro w'
                go_simp
                with_reducible rfl
              rotate_left
              · simp only [Act.put, List.setIfInBounds_toArray, List.set_cons_zero, List.set_cons_succ, i64_w, i32_w]
                rfl
              refine one_ (i := 4) (N := some 81) #[true, true, true, true, true, false, false, false, false, false, false, false, false, false, false, false, false, false, false, false, false, false, false, false, false, false, false, false, false, false, false, false, false, false, false, false, false, false, false] rfl rfl (by kernel_rfl) (by decide) (fun K hK => ?_)
              refine goes_ Tryd.func17 (by kernel_rfl) rfl #[.slice R4 j c4, .slice B j d] (by rfl) rfl rfl (by simp only [List.map_toArray, List.map_cons, List.map_nil]; rfl) ?_
              with_reducible refine ((F1.out _ hHeld.1 hHeld.2.1)).mono ?_
              rintro e' y1 ⟨rfl, v1⟩
              refine ⟨_, rfl, ?_⟩
              refine hK.out _ _ ⟨(hHeld.1.below v1), (hHeld.2.1.below v1), (hHeld.2.2.1.below v1), (hHeld.2.2.2.1.below v1), (hHeld.2.2.2.2.trans (v1.mono hHeld.2.2.2.2.size))⟩ (fun hHeld => ?_)
              clear hK K
              refine norm_ (a' := ?_) ?_ ?_
              rotate_left
              · show Act.put _ (some 81) _ = _
                simp only [Act.put, List.setIfInBounds_toArray, List.set_cons_zero, List.set_cons_succ, i64_w, i32_w]
                rfl
              refine pure_ (i := 5) (N := some 82) (v := ?_) (a' := ?_) #[true, true, true, true, true, true, false, false, false, false, false, false, false, false, false, false, false, false, false, false, false, false, false, false, false, false, false, false, false, false, false, false, false, false, false, false, false, false, false] rfl rfl (by kernel_rfl) (fun _ _ _ h => h) (Or.inl ⟨by rfl, ?_⟩) ?_ ?_
              rotate_left
              · intro w'
                go_simp
                with_reducible rfl
              rotate_left
              · simp only [Act.put, List.setIfInBounds_toArray, List.set_cons_zero, List.set_cons_succ, i64_w, i32_w]
                rfl
              refine pure_ (i := 6) (N := some 83) (v := ?_) (a' := ?_) #[true, true, true, true, true, true, true, false, false, false, false, false, false, false, false, false, false, false, false, false, false, false, false, false, false, false, false, false, false, false, false, false, false, false, false, false, false, false, false] rfl rfl (by kernel_rfl) (fun _ _ _ h => h) (Or.inl ⟨by rfl, ?_⟩) ?_ ?_
              rotate_left
              · intro w'
                go_simp
                with_reducible rfl
              rotate_left
              · simp only [Act.put, List.setIfInBounds_toArray, List.set_cons_zero, List.set_cons_succ, i64_w, i32_w]
                rfl
              refine pure_ (i := 7) (N := some 84) (v := ?_) (a' := ?_) #[true, true, true, true, true, true, true, true, false, false, false, false, false, false, false, false, false, false, false, false, false, false, false, false, false, false, false, false, false, false, false, false, false, false, false, false, false, false, false] rfl rfl (by kernel_rfl) (fun _ _ _ h => h) (Or.inl ⟨by rfl, ?_⟩) ?_ ?_
              rotate_left
              · intro w'
                go_simp
                with_reducible rfl
              rotate_left
              · simp only [Act.put, List.setIfInBounds_toArray, List.set_cons_zero, List.set_cons_succ, i64_w, i32_w]
                rfl
              refine pure_ (i := 8) (N := some 85) (v := ?_) (a' := ?_) #[true, true, true, true, true, true, true, true, true, false, false, false, false, false, false, false, false, false, false, false, false, false, false, false, false, false, false, false, false, false, false, false, false, false, false, false, false, false, false] rfl rfl (by kernel_rfl) (fun _ _ _ h => h) (Or.inl ⟨by rfl, ?_⟩) ?_ ?_
              rotate_left
              · intro w'
                go_simp
                with_reducible rfl
              rotate_left
              · simp only [Act.put, List.setIfInBounds_toArray, List.set_cons_zero, List.set_cons_succ, i64_w, i32_w]
                rfl
              refine pure_ (i := 9) (N := some 86) (v := ?_) (a' := ?_) #[true, true, true, true, true, true, true, true, true, true, false, false, false, false, false, false, false, false, false, false, false, false, false, false, false, false, false, false, false, false, false, false, false, false, false, false, false, false, false] rfl rfl (by kernel_rfl) (fun _ _ _ h => h) (Or.inl ⟨by rfl, ?_⟩) ?_ ?_
              rotate_left
              · intro w'
                go_simp
                with_reducible rfl
              rotate_left
              · simp only [Act.put, List.setIfInBounds_toArray, List.set_cons_zero, List.set_cons_succ, i64_w, i32_w]
                rfl
              refine one_ (i := 10) (N := some 87) #[true, true, true, true, true, true, true, true, true, true, true, false, false, false, false, false, false, false, false, false, false, false, false, false, false, false, false, false, false, false, false, false, false, false, false, false, false, false, false] rfl rfl (by kernel_rfl) (by decide) (fun K hK => ?_)
              refine goes_ Tryd.func19 (by kernel_rfl) rfl #[.slice B j d] (by rfl) rfl rfl (by simp only [List.map_toArray, List.map_cons, List.map_nil]; rfl) ?_
              with_reducible refine ((F2.out _ hHeld.2.1)).mono ?_
              rintro e' y2 ⟨Ay, cy, rfl, v2⟩
              refine ⟨_, rfl, ?_⟩
              refine hK.out _ _ ⟨(hHeld.1.below v2), (hHeld.2.1.below v2), (hHeld.2.2.1.below v2), (hHeld.2.2.2.1.below v2), (hHeld.2.2.2.2.trans (v2.mono hHeld.2.2.2.2.size))⟩ (fun hHeld => ?_)
              clear hK K
              refine norm_ (a' := ?_) ?_ ?_
              rotate_left
              · show Act.put _ (some 87) _ = _
                simp only [Act.put, List.setIfInBounds_toArray, List.set_cons_zero, List.set_cons_succ, i64_w, i32_w]
                rfl
              refine pure_ (i := 11) (N := some 88) (v := ?_) (a' := ?_) #[true, true, true, true, true, true, true, true, true, true, true, true, false, false, false, false, false, false, false, false, false, false, false, false, false, false, false, false, false, false, false, false, false, false, false, false, false, false, false] rfl rfl (by kernel_rfl) (fun _ _ _ h => h) (Or.inl ⟨by rfl, ?_⟩) ?_ ?_
              rotate_left
              · intro w'
                go_simp
                with_reducible rfl
              rotate_left
              · simp only [Act.put, List.setIfInBounds_toArray, List.set_cons_zero, List.set_cons_succ, i64_w, i32_w]
                rfl
              refine pure_ (i := 12) (N := some 89) (v := ?_) (a' := ?_) #[true, true, true, true, true, true, true, true, true, true, true, true, true, false, false, false, false, false, false, false, false, false, false, false, false, false, false, false, false, false, false, false, false, false, false, false, false, false, false] rfl rfl (by kernel_rfl) (fun _ _ _ h => h) (Or.inl ⟨by rfl, ?_⟩) ?_ ?_
              rotate_left
              · intro w'
                go_simp
                with_reducible rfl
              rotate_left
              · simp only [Act.put, List.setIfInBounds_toArray, List.set_cons_zero, List.set_cons_succ, i64_w, i32_w]
                rfl
              refine pure_ (i := 13) (N := some 90) (v := ?_) (a' := ?_) #[true, true, true, true, true, true, true, true, true, true, true, true, true, true, false, false, false, false, false, false, false, false, false, false, false, false, false, false, false, false, false, false, false, false, false, false, false, false, false] rfl rfl (by kernel_rfl) (fun _ _ _ h => h) (Or.inl ⟨by rfl, ?_⟩) ?_ ?_
              rotate_left
              · intro w'
                go_simp
                with_reducible rfl
              rotate_left
              · simp only [Act.put, List.setIfInBounds_toArray, List.set_cons_zero, List.set_cons_succ, i64_w, i32_w]
                rfl
              refine pure_ (i := 14) (N := some 91) (v := ?_) (a' := ?_) #[true, true, true, true, true, true, true, true, true, true, true, true, true, true, true, false, false, false, false, false, false, false, false, false, false, false, false, false, false, false, false, false, false, false, false, false, false, false, false] rfl rfl (by kernel_rfl) (fun _ _ _ h => h) (Or.inl ⟨by rfl, ?_⟩) ?_ ?_
              rotate_left
              · intro w'
                go_simp
                with_reducible rfl
              rotate_left
              · simp only [Act.put, List.setIfInBounds_toArray, List.set_cons_zero, List.set_cons_succ, i64_w, i32_w]
                rfl
              refine pure_ (i := 15) (N := some 92) (v := ?_) (a' := ?_) #[true, true, true, true, true, true, true, true, true, true, true, true, true, true, true, true, false, false, false, false, false, false, false, false, false, false, false, false, false, false, false, false, false, false, false, false, false, false, false] rfl rfl (by kernel_rfl) (fun _ _ _ h => h) (Or.inl ⟨by rfl, ?_⟩) ?_ ?_
              rotate_left
              · intro w'
                go_simp
                with_reducible rfl
              rotate_left
              · simp only [Act.put, List.setIfInBounds_toArray, List.set_cons_zero, List.set_cons_succ, i64_w, i32_w]
                rfl
              refine pure_ (i := 16) (N := some 93) (v := ?_) (a' := ?_) #[true, true, true, true, true, true, true, true, true, true, true, true, true, true, true, true, true, false, false, false, false, false, false, false, false, false, false, false, false, false, false, false, false, false, false, false, false, false, false] rfl rfl (by kernel_rfl) (fun _ _ _ h => h) (Or.inl ⟨by rfl, ?_⟩) ?_ ?_
              rotate_left
              · intro w'
                go_simp
                with_reducible rfl
              rotate_left
              · simp only [Act.put, List.setIfInBounds_toArray, List.set_cons_zero, List.set_cons_succ, i64_w, i32_w]
                rfl
              refine one_ (i := 17) (N := some 94) #[true, true, true, true, true, true, true, true, true, true, true, true, true, true, true, true, true, true, false, false, false, false, false, false, false, false, false, false, false, false, false, false, false, false, false, false, false, false, false] rfl rfl (by kernel_rfl) (by decide) (fun K hK => ?_)
              refine goes_ Tryd.func17 (by kernel_rfl) rfl #[.slice S7 m cS, .slice S8 m cT] (by rfl) rfl rfl (by simp only [List.map_toArray, List.map_cons, List.map_nil]; rfl) ?_
              with_reducible refine ((F3.out _ hHeld.2.2.1 hHeld.2.2.2.1)).mono ?_
              rintro e' y3 ⟨rfl, v3⟩
              refine ⟨_, rfl, ?_⟩
              refine hK.out _ _ ⟨(hHeld.1.below v3), (hHeld.2.1.below v3), (hHeld.2.2.1.below v3), (hHeld.2.2.2.1.below v3), (hHeld.2.2.2.2.trans (v3.mono hHeld.2.2.2.2.size))⟩ (fun hHeld => ?_)
              clear hK K
              refine norm_ (a' := ?_) ?_ ?_
              rotate_left
              · show Act.put _ (some 94) _ = _
                simp only [Act.put, List.setIfInBounds_toArray, List.set_cons_zero, List.set_cons_succ, i64_w, i32_w]
                rfl
              refine pure_ (i := 18) (N := some 95) (v := ?_) (a' := ?_) #[true, true, true, true, true, true, true, true, true, true, true, true, true, true, true, true, true, true, true, false, false, false, false, false, false, false, false, false, false, false, false, false, false, false, false, false, false, false, false] rfl rfl (by kernel_rfl) (fun _ _ _ h => h) (Or.inl ⟨by rfl, ?_⟩) ?_ ?_
              rotate_left
              · intro w'
                go_simp
                with_reducible rfl
              rotate_left
              · simp only [Act.put, List.setIfInBounds_toArray, List.set_cons_zero, List.set_cons_succ, i64_w, i32_w]
                rfl
              refine pure_ (i := 19) (N := some 96) (v := ?_) (a' := ?_) #[true, true, true, true, true, true, true, true, true, true, true, true, true, true, true, true, true, true, true, true, false, false, false, false, false, false, false, false, false, false, false, false, false, false, false, false, false, false, false] rfl rfl (by kernel_rfl) (fun _ _ _ h => h) (Or.inl ⟨by rfl, ?_⟩) ?_ ?_
              rotate_left
              · intro w'
                go_simp
                with_reducible rfl
              rotate_left
              · simp only [Act.put, List.setIfInBounds_toArray, List.set_cons_zero, List.set_cons_succ, i64_w, i32_w]
                rfl
              refine pure_ (i := 20) (N := some 97) (v := ?_) (a' := ?_) #[true, true, true, true, true, true, true, true, true, true, true, true, true, true, true, true, true, true, true, true, true, false, false, false, false, false, false, false, false, false, false, false, false, false, false, false, false, false, false] rfl rfl (by kernel_rfl) (fun _ _ _ h => h) (Or.inl ⟨by rfl, ?_⟩) ?_ ?_
              rotate_left
              · intro w'
                go_simp
                with_reducible rfl
              rotate_left
              · simp only [Act.put, List.setIfInBounds_toArray, List.set_cons_zero, List.set_cons_succ, i64_w, i32_w]
                rfl
              refine pure_ (i := 21) (N := some 98) (v := ?_) (a' := ?_) #[true, true, true, true, true, true, true, true, true, true, true, true, true, true, true, true, true, true, true, true, true, true, false, false, false, false, false, false, false, false, false, false, false, false, false, false, false, false, false] rfl rfl (by kernel_rfl) (fun _ _ _ h => h) (Or.inl ⟨by rfl, ?_⟩) ?_ ?_
              rotate_left
              · intro w'
                go_simp
                with_reducible rfl
              rotate_left
              · simp only [Act.put, List.setIfInBounds_toArray, List.set_cons_zero, List.set_cons_succ, i64_w, i32_w]
                rfl
              refine pure_ (i := 22) (N := some 99) (v := ?_) (a' := ?_) #[true, true, true, true, true, true, true, true, true, true, true, true, true, true, true, true, true, true, true, true, true, true, true, false, false, false, false, false, false, false, false, false, false, false, false, false, false, false, false] rfl rfl (by kernel_rfl) (fun _ _ _ h => h) (Or.inl ⟨by rfl, ?_⟩) ?_ ?_
              rotate_left
              · intro w'
                go_simp
                with_reducible rfl
              rotate_left
              · simp only [Act.put, List.setIfInBounds_toArray, List.set_cons_zero, List.set_cons_succ, i64_w, i32_w]
                rfl
              refine pure_ (i := 23) (N := some 100) (v := ?_) (a' := ?_) #[true, true, true, true, true, true, true, true, true, true, true, true, true, true, true, true, true, true, true, true, true, true, true, true, false, false, false, false, false, false, false, false, false, false, false, false, false, false, false] rfl rfl (by kernel_rfl) (fun _ _ _ h => h) (Or.inl ⟨by rfl, ?_⟩) ?_ ?_
              rotate_left
              · intro w'
                go_simp
                with_reducible rfl
              rotate_left
              · simp only [Act.put, List.setIfInBounds_toArray, List.set_cons_zero, List.set_cons_succ, i64_w, i32_w]
                rfl
              refine pure_ (i := 24) (N := some 101) (v := ?_) (a' := ?_) #[true, true, true, true, true, true, true, true, true, true, true, true, true, true, true, true, true, true, true, true, true, true, true, true, true, false, false, false, false, false, false, false, false, false, false, false, false, false, false] rfl rfl (by kernel_rfl) (fun _ _ _ h => h) (Or.inl ⟨by rfl, ?_⟩) ?_ ?_
              rotate_left
              · intro w'
                go_simp
                with_reducible rfl
              rotate_left
              · simp only [Act.put, List.setIfInBounds_toArray, List.set_cons_zero, List.set_cons_succ, i64_w, i32_w]
                rfl
              refine pure_ (i := 25) (N := some 102) (v := ?_) (a' := ?_) #[true, true, true, true, true, true, true, true, true, true, true, true, true, true, true, true, true, true, true, true, true, true, true, true, true, true, false, false, false, false, false, false, false, false, false, false, false, false, false] rfl rfl (by kernel_rfl) (fun _ _ _ h => h) (Or.inl ⟨by rfl, ?_⟩) ?_ ?_
              rotate_left
              · intro w'
                go_simp
                with_reducible rfl
              rotate_left
              · simp only [Act.put, List.setIfInBounds_toArray, List.set_cons_zero, List.set_cons_succ, i64_w, i32_w]
                rfl
              refine pure_ (i := 26) (N := some 103) (v := ?_) (a' := ?_) #[true, true, true, true, true, true, true, true, true, true, true, true, true, true, true, true, true, true, true, true, true, true, true, true, true, true, true, false, false, false, false, false, false, false, false, false, false, false, false] rfl rfl (by kernel_rfl) (fun _ _ _ h => h) (Or.inl ⟨by rfl, ?_⟩) ?_ ?_
              rotate_left
              · intro w'
                go_simp
                with_reducible rfl
              rotate_left
              · simp only [Act.put, List.setIfInBounds_toArray, List.set_cons_zero, List.set_cons_succ, i64_w, i32_w]
                rfl
              refine pure_ (i := 27) (N := some 104) (v := ?_) (a' := ?_) #[true, true, true, true, true, true, true, true, true, true, true, true, true, true, true, true, true, true, true, true, true, true, true, true, true, true, true, true, false, false, false, false, false, false, false, false, false, false, false] rfl rfl (by kernel_rfl) (fun _ _ _ h => h) (Or.inl ⟨by rfl, ?_⟩) ?_ ?_
              rotate_left
              · intro w'
                go_simp
                with_reducible rfl
              rotate_left
              · simp only [Act.put, List.setIfInBounds_toArray, List.set_cons_zero, List.set_cons_succ, i64_w, i32_w]
                rfl
              refine pure_ (i := 28) (N := some 105) (v := ?_) (a' := ?_) #[true, true, true, true, true, true, true, true, true, true, true, true, true, true, true, true, true, true, true, true, true, true, true, true, true, true, true, true, true, false, false, false, false, false, false, false, false, false, false] rfl rfl (by kernel_rfl) (fun _ _ _ h => h) (Or.inl ⟨by rfl, ?_⟩) ?_ ?_
              rotate_left
              · intro w'
                go_simp
                with_reducible rfl
              rotate_left
              · simp only [Act.put, List.setIfInBounds_toArray, List.set_cons_zero, List.set_cons_succ, i64_w, i32_w]
                rfl
              refine pure_ (i := 29) (N := some 106) (v := ?_) (a' := ?_) #[true, true, true, true, true, true, true, true, true, true, true, true, true, true, true, true, true, true, true, true, true, true, true, true, true, true, true, true, true, true, false, false, false, false, false, false, false, false, false] rfl rfl (by kernel_rfl) (fun _ _ _ h => h) (Or.inl ⟨by rfl, ?_⟩) ?_ ?_
              rotate_left
              · intro w'
                go_simp
                with_reducible rfl
              rotate_left
              · simp only [Act.put, List.setIfInBounds_toArray, List.set_cons_zero, List.set_cons_succ, i64_w, i32_w]
                rfl
              refine pure_ (i := 30) (N := some 107) (v := ?_) (a' := ?_) #[true, true, true, true, true, true, true, true, true, true, true, true, true, true, true, true, true, true, true, true, true, true, true, true, true, true, true, true, true, true, true, false, false, false, false, false, false, false, false] rfl rfl (by kernel_rfl) (fun _ _ _ h => h) (Or.inl ⟨by rfl, ?_⟩) ?_ ?_
              rotate_left
              · intro w'
                go_simp
                with_reducible rfl
              rotate_left
              · simp only [Act.put, List.setIfInBounds_toArray, List.set_cons_zero, List.set_cons_succ, i64_w, i32_w]
                rfl
              refine pure_ (i := 31) (N := some 108) (v := ?_) (a' := ?_) #[true, true, true, true, true, true, true, true, true, true, true, true, true, true, true, true, true, true, true, true, true, true, true, true, true, true, true, true, true, true, true, true, false, false, false, false, false, false, false] rfl rfl (by kernel_rfl) (fun _ _ _ h => h) (Or.inl ⟨by rfl, ?_⟩) ?_ ?_
              rotate_left
              · intro w'
                go_simp
                with_reducible rfl
              rotate_left
              · simp only [Act.put, List.setIfInBounds_toArray, List.set_cons_zero, List.set_cons_succ, i64_w, i32_w]
                rfl
              refine pure_ (i := 32) (N := some 109) (v := ?_) (a' := ?_) #[true, true, true, true, true, true, true, true, true, true, true, true, true, true, true, true, true, true, true, true, true, true, true, true, true, true, true, true, true, true, true, true, true, false, false, false, false, false, false] rfl rfl (by kernel_rfl) (fun _ _ _ h => h) (Or.inl ⟨by rfl, ?_⟩) ?_ ?_
              rotate_left
              · intro w'
                go_simp
                with_reducible rfl
              rotate_left
              · simp only [Act.put, List.setIfInBounds_toArray, List.set_cons_zero, List.set_cons_succ, i64_w, i32_w]
                rfl
              refine pure_ (i := 33) (N := some 110) (v := ?_) (a' := ?_) #[true, true, true, true, true, true, true, true, true, true, true, true, true, true, true, true, true, true, true, true, true, true, true, true, true, true, true, true, true, true, true, true, true, true, false, false, false, false, false] rfl rfl (by kernel_rfl) (fun _ _ _ h => h) (Or.inl ⟨by rfl, ?_⟩) ?_ ?_
              rotate_left
              · intro w'
                go_simp
                with_reducible rfl
              rotate_left
              · simp only [Act.put, List.setIfInBounds_toArray, List.set_cons_zero, List.set_cons_succ, i64_w, i32_w]
                rfl
              refine one_ (i := 34) (N := some 111) #[true, true, true, true, true, true, true, true, true, true, true, true, true, true, true, true, true, true, true, true, true, true, true, true, true, true, true, true, true, true, true, true, true, true, true, false, false, false, false] rfl rfl (by kernel_rfl) (by decide) (fun K hK => ?_)
              refine goes_ Tryd.func17 (by kernel_rfl) rfl #[.slice S7 j cS, .slice B j d] (by rfl) rfl rfl (by simp only [List.map_toArray, List.map_cons, List.map_nil]; rfl) ?_
              with_reducible refine ((F4.out _ hHeld.2.2.1 hHeld.2.1)).mono ?_
              rintro e' y4 ⟨rfl, v4⟩
              refine ⟨_, rfl, ?_⟩
              have B9 := hHeld.2.2.2.2.trans (v4.mono hHeld.2.2.2.2.size)
              refine hK.out _ _ ⟨(hHeld.1.below v4), (hHeld.2.1.below v4), (hHeld.2.2.1.below v4), (hHeld.2.2.2.1.below v4), (hHeld.2.2.2.2.trans (v4.mono hHeld.2.2.2.2.size))⟩ (fun hHeld => ?_)
              clear hK K
              refine norm_ (a' := ?_) ?_ ?_
              rotate_left
              · show Act.put _ (some 111) _ = _
                simp only [Act.put, List.setIfInBounds_toArray, List.set_cons_zero, List.set_cons_succ, i64_w, i32_w]
                rfl
              refine pure_ (i := 35) (N := some 112) (v := ?_) (a' := ?_) #[true, true, true, true, true, true, true, true, true, true, true, true, true, true, true, true, true, true, true, true, true, true, true, true, true, true, true, true, true, true, true, true, true, true, true, true, false, false, false] rfl rfl (by kernel_rfl) (fun _ _ _ h => h) (Or.inl ⟨by rfl, ?_⟩) ?_ ?_
              rotate_left
              · intro w'
                go_simp
                with_reducible rfl
              rotate_left
              · simp only [Act.put, List.setIfInBounds_toArray, List.set_cons_zero, List.set_cons_succ, i64_w, i32_w]
                rfl
              refine pure_ (i := 36) (N := some 113) (v := ?_) (a' := ?_) #[true, true, true, true, true, true, true, true, true, true, true, true, true, true, true, true, true, true, true, true, true, true, true, true, true, true, true, true, true, true, true, true, true, true, true, true, true, false, false] rfl rfl (by kernel_rfl) (fun _ _ _ h => h) (Or.inl ⟨by rfl, ?_⟩) ?_ ?_
              rotate_left
              · intro w'
                go_simp
                with_reducible rfl
              rotate_left
              · simp only [Act.put, List.setIfInBounds_toArray, List.set_cons_zero, List.set_cons_succ, i64_w, i32_w]
                rfl
              refine pure_ (i := 37) (N := some 114) (v := ?_) (a' := ?_) #[true, true, true, true, true, true, true, true, true, true, true, true, true, true, true, true, true, true, true, true, true, true, true, true, true, true, true, true, true, true, true, true, true, true, true, true, true, true, false] rfl rfl (by kernel_rfl) (fun _ _ _ h => h) (Or.inl ⟨by rfl, ?_⟩) ?_ ?_
              rotate_left
              · intro w'
                go_simp
                with_reducible rfl
              rotate_left
              · simp only [Act.put, List.setIfInBounds_toArray, List.set_cons_zero, List.set_cons_succ, i64_w, i32_w]
                rfl
              refine pure_ (i := 38) (N := some 6) (v := ?_) (a' := ?_) #[true, true, true, true, true, true, true, true, true, true, true, true, true, true, true, true, true, true, true, true, true, true, true, true, true, true, true, true, true, true, true, true, true, true, true, true, true, true, true] rfl rfl (by kernel_rfl) (fun _ _ _ h => h) (Or.inl ⟨by rfl, ?_⟩) ?_ ?_
              rotate_left
              · intro w'
                go_simp
                with_reducible rfl
              rotate_left
              · simp only [Act.put, List.setIfInBounds_toArray, List.set_cons_zero, List.set_cons_succ, i64_w, i32_w]
                rfl
              refine done_ (by kernel_rfl) ?_
              clear F1 F2 F3 F4 lp8 hZ8 lq8 lr8 B8 u1 u2 u3 u4
              go_wp2
              go_ret
              exact ⟨rfl, B9⟩
        · exfalso
          have hjn : j = n := by omega
          have h1 := hE.out
          rw [hjn, List.take_of_length_le (by rw [texts_length, ← HN.out]; exact Nat.le_refl _), ← hF.out, ← HF.out] at h1
          omega
  · have hts : decide (smallB (texts zs)) = false := by simp [hsm]
    have H := hid (both_any hT)
    go_enter Tryd.func5, Tryd.ntmps5
    go_wp2_with fail
    refine H.out.mono ?_
    rintro e w1 ⟨rfl, B1⟩
    have H0 := small_any (hZ.below B1) ⟨z1, z2⟩
    rw [hts] at H0
    have H := hid H0
    clear H0 hts
    go_wp2_with fail
    refine H.out.mono ?_
    rintro e w2 ⟨rfl, rfl⟩
    have H := hid (both_any (hT.below B1))
    go_wp2_with fail
    refine H.out.mono ?_
    rintro e w2 ⟨rfl, b2⟩
    go_wp2
    go_ret
    exact ⟨rfl, below_then B1 b2⟩
end Go.Proofs.YtponofojildbmaaDoor
