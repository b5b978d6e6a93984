/- The walk of the reference's Scan. -/
import Derived.Test.YtponofojildbmaaDoorWalC
set_option linter.unusedVariables false
set_option linter.unusedSimpArgs false
namespace Go.Proofs.YtponofojildbmaaDoor
open Go.RowKit PrintLast

theorem wrap_ok (x : Nat) (h : x < 4611686018427387904) : wrap64 (x : Int) = (x : Int) := by unfold wrap64; omega
set_option maxRecDepth 100000 in
set_option maxHeartbeats 6400000 in
theorem rscan_any {w : World} {A : Option Addr} {c : Nat} {p : List UInt8} (hp : BSA w A c p) (hA : A = none ∨ ∃ g, A = some ⟨g, 0, none⟩) (hb : p.length ≤ 10000000) :
    Calls Tryd.prog 14 #[.slice A p.length c] w (Scanned w p) := by
  rcases hA with rfl | ⟨g, rfl⟩
  · have hc : c = 0 := hp.2.2.1 rfl
    have hl : p = [] := List.eq_nil_of_length_eq_zero (by have := hp.1; omega)
    subst hc hl
    have H0 := hid (scanB_none (show nextB ([] : List UInt8) = none from nextB_short (by decide)))
    have B0 := hid (Below.refl w.heap.size w)
    go_enter Tryd.func14, Tryd.ntmps14
    go_wp2
    go_loopw [4, 5] (fun l i wr => l = .slice none 0 0 ∧ i = .int .i64 0 ∧ w = wr) (fun _ i _ => 0)
    case atStart => exact ⟨rfl, rfl, rfl⟩
    case round =>
      obtain ⟨rfl, rfl, rfl⟩ := hrel
      go_wp2
      go_ret2
      exact ⟨none, 0, [], by rw [H0.out]; rfl, Listed.nil _ _, by rw [H0.out]; rfl, B0.out⟩
  · obtain ⟨n, hn⟩ : ∃ n, n = p.length := ⟨_, rfl⟩
    have hc1 := hp.1
    have hc2 := hp.2.1
    unfold maxLen at hc2
    have HN := hid hn
    rw [← hn] at hc1 hb ⊢
    have HP := hid hp
    have L0 : Listed w w.heap.size none 0 [] := Listed.nil _ _
    have S0 : Hid (scanB p = (([] : List Part).map (·.2.2) ++ (scanB (p.drop 0)).1, 0 + (scanB (p.drop 0)).2)) := hid (by simp)
    have B0 := Below.refl w.heap.size w
    clear hp hn
    go_enter Tryd.func14, Tryd.ntmps14
    go_wp2
    go_loopw [4, 5] (fun l i wr => ∃ (k N c' : Nat) (R : Option Addr) (ps : List Part), k ≤ n ∧ i = .int .i64 k ∧ l = .slice R N c' ∧ Hid (ps.length = N) ∧ N ≤ k ∧ Listed wr w.heap.size R c' ps ∧ Hid (scanB p = (ps.map (·.2.2) ++ (scanB (p.drop k)).1, k + (scanB (p.drop k)).2)) ∧ Below w.heap.size w wr) (fun _ i _ => n - (intOf i).toNat)
    case atStart => exact ⟨0, 0, 0, none, [], Nat.zero_le _, rfl, rfl, hid rfl, Nat.le_refl _, L0, S0, B0⟩
    case round =>
      clear L0 S0 B0
      obtain ⟨k, N, c', R, ps, hk, rfl, rfl, hN, hNk, hL, hS, hB⟩ := hrel
      have ld : (p.drop k).length = n - k := by rw [List.length_drop, ← HN.out]
      have sB := hB.size
      have stop : Hid (nextB (p.drop k) = none → scanB p = (ps.map (·.2.2), k)) := hid (fun h => by rw [hS.out, scanB_none h]; simp)
      by_cases h8 : n - k < 8
      · have t1 : decide ((8 : Int) ≤ (n : Int) - (k : Int)) = false := by simp; omega
        have X := hid (stop.out (nextB_short (by rw [ld]; exact h8)))
        clear ld hS stop
        go_wp2
        go_ret2
        exact ⟨R, c', ps, by rw [X.out, hN.out]; rfl, hL, by rw [X.out], hB⟩
      · have t1 : decide ((8 : Int) ≤ (n : Int) - (k : Int)) = true := by simp; omega
        have hck : ¬ c = k := by omega
        have pk0 := (HP.out.below hB).cut k (by rw [← HN.out]; exact hk)
        rw [Nat.zero_add] at pk0
        have l4 : ((p.drop k).take 4).length = 4 := by rw [List.length_take, ld]; omega
        have RD := readN_any (pk0.head 4) (by rw [l4]; omega)
        rw [l4] at RD
        obtain ⟨m, hm⟩ : ∃ m, m = readNat ((p.drop k).take 4) := ⟨_, rfl⟩
        have hm4 : m < 4294967296 := by
          have := readNat_lt 4 _ l4
          rw [hm]; exact this
        rw [← hm] at RD
        have LD := hid ld
        have HM := hid hm
        have H := hid RD
        clear ld hm RD l4 pk0
        go_wp2_with fail
        refine H.out.mono ?_
        rintro e w1 ⟨rfl, rfl⟩
        by_cases hbig : 1048576 < m
        · have t2 : decide ((1048576 : Int) < (m : Int)) = true := by simp; omega
          have X := hid (stop.out (by unfold nextB; rw [if_neg (by rw [LD.out]; exact h8), ← HM.out, if_pos (.inl hbig)]))
          clear hS stop H
          go_wp2
          go_ret2
          exact ⟨R, c', ps, by rw [X.out, hN.out]; rfl, hL, by rw [X.out], hB⟩
        · have t2 : decide ((1048576 : Int) < (m : Int)) = false := by simp; omega
          by_cases hlong : n - k - 8 < m
          · have t3 : decide ((n : Int) - (k : Int) - 8 < (m : Int)) = true := by simp; omega
            have X := hid (stop.out (by unfold nextB; rw [if_neg (by rw [LD.out]; exact h8), ← HM.out, LD.out, if_pos (.inr hlong)]))
            clear hS stop H
            go_wp2
            go_ret2
            exact ⟨R, c', ps, by rw [X.out, hN.out]; rfl, hL, by rw [X.out], hB⟩
          · have t3 : decide ((n : Int) - (k : Int) - 8 < (m : Int)) = false := by simp; omega
            have hnx : nextB (p.drop k) = if frameB (((p.drop k).drop 8).take m) = (p.drop k).take (8 + m) then some (((p.drop k).drop 8).take m) else none := by
              unfold nextB
              rw [if_neg (by rw [LD.out]; exact h8), ← HM.out, LD.out, if_neg (by omega)]
            obtain ⟨q, hq⟩ : ∃ q, q = ((p.drop k).drop 8).take m := ⟨_, rfl⟩
            have lq : q.length = m := by rw [hq, List.length_take, List.length_drop, LD.out]; omega
            rw [← hq] at hnx
            have HX := hid hnx
            have LQ := hid lq
            have HQ := hid hq
            have hkm : k + 8 + m ≤ n := by omega
            have eD : (p.drop k).drop 8 = p.drop (k + 8) := by rw [List.drop_drop]
            have ED := hid eD
            clear hnx lq hq eD H
            by_cases hc8 : c = k + 8
            · subst hc8
              have pq : BSA wr (some ⟨g, 0, none⟩) (0) q := by rw [show q = [] from List.eq_nil_of_length_eq_zero (by rw [LQ.out]; omega)]; exact ⟨by simp, by unfold maxLen; omega, (fun e => by cases e), fun ad e j hj => by simp at hj⟩
              have H := hid (join_gave (n1 := m) (n2 := 0) LQ.out rfl (List.append_nil q) pq (BSA.nil wr) (by rw [LQ.out]; omega))
              clear pq
              go_wp2_with fail
              refine H.out.mono ?_
              rintro e w2 ⟨A2, c2, rfl, r2, b2⟩
              rw [LQ.out]
              have B2 := hB.trans (b2.mono sB)
              have hL2 := hL.below b2
              have sW2 : w.heap.size ≤ w2.heap.size := B2.size
              have r2' := r2.lower sB
              have hp2 := HP.out.below B2
              have F1 : ∀ w' : World, BSA w' A2 c2 q → Calls Tryd.prog 16 #[.slice A2 m c2] w' (Gave w' (frameB q)) := fun w' h => by
                have := rframe_any h (by rw [LQ.out]; omega)
                rw [LQ.out] at this
                exact this
              have lf : (frameB q).length = 8 + m := by rw [frameB_length, LQ.out]
              have lt : (((p.drop k)).take (8 + m)).length = 8 + m := by rw [List.length_take, LD.out]; omega
              have F2 : ∀ (w' : World) (A3 : Option Addr) (c3 : Nat), BSA w' A3 c3 (frameB q) → BSA w' (some ⟨g, 0, none⟩) (k + 8) p → Calls Tryd.prog 15 #[.slice A3 (frameB q).length c3, .slice (some ⟨g, k, none⟩) (8 + m) (8)] w' fun e w'' => e = .returned (.bool (decide (frameB q = (p.drop k).take (8 + m)))) ∧ Below w'.heap.size w' w'' := fun w' A3 c3 h1 h2 => by
                have pk := (h2.cut k (by rw [← HN.out]; exact hk)).head (8 + m)
                rw [Nat.zero_add, Nat.add_sub_cancel_left] at pk
                have := bytes_any h1 pk
                rw [lt] at this
                exact this
              obtain ⟨s8, hs8⟩ : ∃ s, s = k + 8 := ⟨_, rfl⟩
              obtain ⟨T, hTT⟩ : ∃ T, T = k + 8 + m := ⟨_, rfl⟩
              have key : ((k : Int) + 8 = (s8 : Int)) ∧ ((s8 : Int) + (m : Int) = (T : Int)) ∧ (T ≤ s8) ∧ (k ≤ T) ∧ (T - k = 8 + m) ∧ (0 ≤ (T : Int)) ∧ wrap64 (s8 : Int) = (s8 : Int) ∧ wrap64 (T : Int) = (T : Int) := ⟨by omega, by omega, by omega, by omega, by omega, by omega, wrap_ok _ (by omega), wrap_ok _ (by omega)⟩
              obtain ⟨u1, u2, u3, u4, u5, u6, u7, u8⟩ := key
              replace u3 := eq_true u3
              replace u4 := eq_true u4
              replace u6 := eq_true u6
              clear hs8 hTT
              have F1' := hid F1
              have F2' := hid F2
              have LF := hid lf
              clear r2 b2 H F1 F2 lf lt
              go_wp2
              refine start_ (n := 11) (S := fun w' => BSA w' (some ⟨g, 0, none⟩) (k + 8) p ∧ Below w.heap.size w w' ∧ BSA w' A2 c2 q ∧ Listed w' w.heap.size R c' ps ∧ Row w' w.heap.size A2 c2 q) (ds := []) #[false, false, false, false, false, false, false, false, false, false, false] (by kernel_rfl) rfl rfl ⟨hp2, B2.drew, r2'.bsa, hL2, r2'⟩ (fun hHeld => ?_)
              refine pure_ (i := 0) (N := some 40) (v := ?_) (a' := ?_) #[true, false, false, false, false, false, false, false, false, false, false] rfl rfl (by kernel_rfl) (fun _ _ _ h => h) (Or.inl ⟨by rfl, ?_⟩) ?_ ?_
              rotate_left
              · intro w'
                go_simp
                with_reducible rfl
              rotate_left
              · simp only [Act.put, List.setIfInBounds_toArray, List.set_cons_zero, List.set_cons_succ, i64_w, i32_w]
                rfl
              refine pure_ (i := 2) (N := some 42) (v := ?_) (a' := ?_) #[true, false, true, false, false, false, false, false, false, false, false] rfl rfl (by kernel_rfl) (fun _ _ _ h => h) (Or.inl ⟨by rfl, ?_⟩) ?_ ?_
              rotate_left
              · intro w'
                go_simp
                with_reducible rfl
              rotate_left
              · simp only [Act.put, List.setIfInBounds_toArray, List.set_cons_zero, List.set_cons_succ, i64_w, i32_w]
                rfl
              refine pure_ (i := 3) (N := some 43) (v := ?_) (a' := ?_) #[true, false, true, true, false, false, false, false, false, false, false] rfl rfl (by kernel_rfl) (fun _ _ _ h => h) (Or.inl ⟨by rfl, ?_⟩) ?_ ?_
              rotate_left
              · intro w'
                go_simp
                with_reducible rfl
              rotate_left
              · simp only [Act.put, List.setIfInBounds_toArray, List.set_cons_zero, List.set_cons_succ, i64_w, i32_w]
                rfl
              refine pure_ (i := 4) (N := some 44) (v := ?_) (a' := ?_) #[true, false, true, true, true, false, false, false, false, false, false] rfl rfl (by kernel_rfl) (fun _ _ _ h => h) (Or.inl ⟨by rfl, ?_⟩) ?_ ?_
              rotate_left
              · intro w'
                go_simp
                with_reducible rfl
              rotate_left
              · simp only [Act.put, List.setIfInBounds_toArray, List.set_cons_zero, List.set_cons_succ, i64_w, i32_w]
                rfl
              refine pure_ (i := 5) (N := some 45) (v := ?_) (a' := ?_) #[true, false, true, true, true, true, false, false, false, false, false] rfl rfl (by kernel_rfl) (fun _ _ _ h => h) (Or.inl ⟨by rfl, ?_⟩) ?_ ?_
              rotate_left
              · intro w'
                go_simp
                with_reducible rfl
              rotate_left
              · simp only [Act.put, List.setIfInBounds_toArray, List.set_cons_zero, List.set_cons_succ, i64_w, i32_w]
                rfl
              refine pure_ (i := 6) (N := some 46) (v := ?_) (a' := ?_) #[true, false, true, true, true, true, true, false, false, false, false] rfl rfl (by kernel_rfl) (fun _ _ _ h => h) (Or.inl ⟨by rfl, ?_⟩) ?_ ?_
              rotate_left
              · intro w'
                go_simp
                with_reducible rfl
              rotate_left
              · simp only [Act.put, List.setIfInBounds_toArray, List.set_cons_zero, List.set_cons_succ, i64_w, i32_w]
                rfl
              refine pure_ (i := 7) (N := some 47) (v := ?_) (a' := ?_) #[true, false, true, true, true, true, true, true, false, false, false] rfl rfl (by kernel_rfl) (fun _ _ _ h => h) (Or.inl ⟨by rfl, ?_⟩) ?_ ?_
              rotate_left
              · intro w'
                go_simp
                with_reducible rfl
              rotate_left
              · simp only [Act.put, List.setIfInBounds_toArray, List.set_cons_zero, List.set_cons_succ, i64_w, i32_w]
                rfl
              refine pure_ (i := 8) (N := some 48) (v := ?_) (a' := ?_) #[true, false, true, true, true, true, true, true, true, false, false] rfl rfl (by kernel_rfl) (fun _ _ _ h => h) (Or.inl ⟨by rfl, ?_⟩) ?_ ?_
              rotate_left
              · intro w'
                go_simp
                with_reducible rfl
              rotate_left
              · simp only [Act.put, List.setIfInBounds_toArray, List.set_cons_zero, List.set_cons_succ, i64_w, i32_w]
                rfl
              refine one_ (i := 1) (N := some 41) #[true, true, true, true, true, true, true, true, true, false, false] rfl rfl (by kernel_rfl) (by decide) (fun K hK => ?_)
              refine goes_ Tryd.func16 (by kernel_rfl) rfl #[.slice A2 m c2] (by rfl) rfl rfl (by simp only [List.map_toArray, List.map_cons, List.map_nil]; rfl) ?_
              with_reducible refine ((F1'.out _ hHeld.2.2.1)).mono ?_
              rintro e' w3 ⟨A3, c3, rfl, r3, b3⟩
              refine ⟨_, rfl, ?_⟩
              refine hK.out _ _ ⟨(hHeld.1.below b3), (hHeld.2.1.trans (b3.mono hHeld.2.1.size)), (hHeld.2.2.1.below b3), (hHeld.2.2.2.1.below b3), (hHeld.2.2.2.2.below b3)⟩ (fun hHeld => ?_)
              clear hK K
              refine norm_ (a' := ?_) ?_ ?_
              rotate_left
              · show Act.put _ (some 41) _ = _
                simp only [Act.put, List.setIfInBounds_toArray, List.set_cons_zero, List.set_cons_succ, i64_w, i32_w]
                rfl
              refine one_ (i := 9) (N := some 49) #[true, true, true, true, true, true, true, true, true, true, false] rfl rfl (by kernel_rfl) (by decide) (fun K hK => ?_)
              refine goes_ Tryd.func15 (by kernel_rfl) rfl #[.slice A3 (frameB q).length c3, .slice (some ⟨g, k, none⟩) (8 + m) (8)] (by rfl) rfl rfl (by simp only [List.map_toArray, List.map_cons, List.map_nil]; rfl) ?_
              with_reducible refine ((F2'.out _ _ _ r3.bsa hHeld.1)).mono ?_
              rintro e' w4 ⟨rfl, b4⟩
              refine ⟨_, rfl, ?_⟩
              have B4 := hHeld.2.1.trans (b4.mono hHeld.2.1.size)
              have hL4 := hHeld.2.2.2.1.below b4
              have r4 := hHeld.2.2.2.2.below b4
              refine hK.out _ _ ⟨(hHeld.1.below b4), B4, (hHeld.2.2.1.below b4), hL4, r4⟩ (fun hHeld => ?_)
              clear hK K
              refine norm_ (a' := ?_) ?_ ?_
              rotate_left
              · show Act.put _ (some 49) _ = _
                simp only [Act.put, List.setIfInBounds_toArray, List.set_cons_zero, List.set_cons_succ, i64_w, i32_w]
                rfl
              refine pure_ (i := 10) (N := some 50) (v := ?_) (a' := ?_) #[true, true, true, true, true, true, true, true, true, true, true] rfl rfl (by kernel_rfl) (fun _ _ _ h => h) (Or.inl ⟨by rfl, ?_⟩) ?_ ?_
              rotate_left
              · intro w'
                go_simp
                with_reducible rfl
              rotate_left
              · simp only [Act.put, List.setIfInBounds_toArray, List.set_cons_zero, List.set_cons_succ, i64_w, i32_w]
                rfl
              refine done_ (by kernel_rfl) ?_
              clear u1 u2 u3 u4 u5 u6 u7 u8 r2' hL2 hp2 F1' F2'
              by_cases hfr : frameB q = (p.drop k).take (8 + m)
              · have hd : decide (frameB q = (p.drop k).take (8 + m)) = true := by simp [hfr]
                rw [hd]
                have hS1 := hS.out
                rw [scanB_some (show nextB (p.drop k) = some q by rw [HX.out, if_pos hfr]), List.drop_drop, LQ.out] at hS1
                have HS1 := hid hS1
                have sW4 : w.heap.size ≤ w4.heap.size := B4.size
                have al := below_alloc (Below.refl _ w4) (.cells #[.slice A2 m c2] 22)
                have hL5 := hL4.below al
                have r5 := r4.below al
                have hc5 : (w4.alloc (.cells #[.slice A2 m c2] 22)).cell? ⟨w4.heap.size, 0, none⟩ = some (partV (A2, c2, q)) := by
                  unfold partV
                  rw [show (A2, c2, q).2.2.length = m from LQ.out]
                  exact cell_at (heap_alloc_new w4 _) rfl
                have B5 := B4.alloc sW4 (.cells #[.slice A2 m c2] 22)
                have sW5 := B5.size
                have HC5 := hid hc5
                clear hd hfr hS1 hS hL4 r4 al B4 hc5 stop
                go_wp2_with (refine wpList_appP rfl (.tmp 51) (.tmp 53) rfl w.heap.size sW5 R c' ps (by rw [hN.out]; rfl) hL5 w4.heap.size (A2, c2, q) rfl HC5.out r5 (by rw [hN.out]; omega) (N + 1) (by rw [hN.out]) ?_)
                intro R6 c6 w6 hL6 b6
                have B6 := B5.trans b6
                have HL : Hid ((ps ++ [(A2, c2, q)]).length = N + 1) := hid (by rw [List.length_append, hN.out]; rfl)
                have HS6 : Hid (scanB p = ((ps ++ [(A2, c2, q)]).map (·.2.2) ++ (scanB (p.drop (k + (8 + m)))).1, (k + (8 + m)) + (scanB (p.drop (k + (8 + m)))).2)) := hid (by
                  rw [HS1.out]
                  simp only [List.map_append, List.map_cons, List.map_nil, List.append_assoc, List.cons_append, List.nil_append, Nat.add_assoc])
                clear hL5 r5 HC5 B5 b6
                go_wp2
                go_roundw
                case rel => exact ⟨k + (8 + m), N + 1, c6, R6, ps ++ [(A2, c2, q)], by omega, by go_num, rfl, HL, by omega, hL6, HS6, B6⟩
                case measure => dsimp only [intOf]; omega
              · have hd : decide (frameB q = (p.drop k).take (8 + m)) = false := by simp [hfr]
                rw [hd]
                have X := hid (stop.out (by rw [HX.out, if_neg hfr]))
                clear hd hfr hS stop
                go_wp2
                go_ret2
                exact ⟨R, c', ps, by rw [X.out, hN.out]; rfl, hL4, by rw [X.out], B4⟩
            · skip
              have pq : BSA wr (some ⟨g, k + 8, none⟩) (c - (k + 8)) q := by rw [HQ.out, ED.out]; have := ((HP.out.below hB).cut (k + 8) (by rw [← HN.out]; omega)).head m; rw [Nat.zero_add] at this; exact this
              have H := hid (join_gave (n1 := m) (n2 := 0) LQ.out rfl (List.append_nil q) pq (BSA.nil wr) (by rw [LQ.out]; omega))
              clear pq
              go_wp2_with fail
              refine H.out.mono ?_
              rintro e w2 ⟨A2, c2, rfl, r2, b2⟩
              rw [LQ.out]
              have B2 := hB.trans (b2.mono sB)
              have hL2 := hL.below b2
              have sW2 : w.heap.size ≤ w2.heap.size := B2.size
              have r2' := r2.lower sB
              have hp2 := HP.out.below B2
              have F1 : ∀ w' : World, BSA w' A2 c2 q → Calls Tryd.prog 16 #[.slice A2 m c2] w' (Gave w' (frameB q)) := fun w' h => by
                have := rframe_any h (by rw [LQ.out]; omega)
                rw [LQ.out] at this
                exact this
              have lf : (frameB q).length = 8 + m := by rw [frameB_length, LQ.out]
              have lt : (((p.drop k)).take (8 + m)).length = 8 + m := by rw [List.length_take, LD.out]; omega
              have F2 : ∀ (w' : World) (A3 : Option Addr) (c3 : Nat), BSA w' A3 c3 (frameB q) → BSA w' (some ⟨g, 0, none⟩) c p → Calls Tryd.prog 15 #[.slice A3 (frameB q).length c3, .slice (some ⟨g, k, none⟩) (8 + m) (c - k)] w' fun e w'' => e = .returned (.bool (decide (frameB q = (p.drop k).take (8 + m)))) ∧ Below w'.heap.size w' w'' := fun w' A3 c3 h1 h2 => by
                have pk := (h2.cut k (by rw [← HN.out]; exact hk)).head (8 + m)
                rw [Nat.zero_add] at pk
                have := bytes_any h1 pk
                rw [lt] at this
                exact this
              obtain ⟨s8, hs8⟩ : ∃ s, s = k + 8 := ⟨_, rfl⟩
              obtain ⟨T, hTT⟩ : ∃ T, T = k + 8 + m := ⟨_, rfl⟩
              have key : ((k : Int) + 8 = (s8 : Int)) ∧ ((s8 : Int) + (m : Int) = (T : Int)) ∧ ((T : Int) ≤ (c : Int)) ∧ (k ≤ T) ∧ (T - k = 8 + m) ∧ (0 ≤ (T : Int)) ∧ wrap64 (s8 : Int) = (s8 : Int) ∧ wrap64 (T : Int) = (T : Int) := ⟨by omega, by omega, by omega, by omega, by omega, by omega, wrap_ok _ (by omega), wrap_ok _ (by omega)⟩
              obtain ⟨u1, u2, u3, u4, u5, u6, u7, u8⟩ := key
              replace u3 := eq_true u3
              replace u4 := eq_true u4
              replace u6 := eq_true u6
              clear hs8 hTT
              have F1' := hid F1
              have F2' := hid F2
              have LF := hid lf
              clear r2 b2 H F1 F2 lf lt
              go_wp2
              refine start_ (n := 11) (S := fun w' => BSA w' (some ⟨g, 0, none⟩) c p ∧ Below w.heap.size w w' ∧ BSA w' A2 c2 q ∧ Listed w' w.heap.size R c' ps ∧ Row w' w.heap.size A2 c2 q) (ds := []) #[false, false, false, false, false, false, false, false, false, false, false] (by kernel_rfl) rfl rfl ⟨hp2, B2.drew, r2'.bsa, hL2, r2'⟩ (fun hHeld => ?_)
              refine pure_ (i := 0) (N := some 40) (v := ?_) (a' := ?_) #[true, false, false, false, false, false, false, false, false, false, false] rfl rfl (by kernel_rfl) (fun _ _ _ h => h) (Or.inl ⟨by rfl, ?_⟩) ?_ ?_
              rotate_left
              · intro w'
                go_simp
                with_reducible rfl
              rotate_left
              · simp only [Act.put, List.setIfInBounds_toArray, List.set_cons_zero, List.set_cons_succ, i64_w, i32_w]
                rfl
              refine pure_ (i := 2) (N := some 42) (v := ?_) (a' := ?_) #[true, false, true, false, false, false, false, false, false, false, false] rfl rfl (by kernel_rfl) (fun _ _ _ h => h) (Or.inl ⟨by rfl, ?_⟩) ?_ ?_
              rotate_left
              · intro w'
                go_simp
                with_reducible rfl
              rotate_left
              · simp only [Act.put, List.setIfInBounds_toArray, List.set_cons_zero, List.set_cons_succ, i64_w, i32_w]
                rfl
              refine pure_ (i := 3) (N := some 43) (v := ?_) (a' := ?_) #[true, false, true, true, false, false, false, false, false, false, false] rfl rfl (by kernel_rfl) (fun _ _ _ h => h) (Or.inl ⟨by rfl, ?_⟩) ?_ ?_
              rotate_left
              · intro w'
                go_simp
                with_reducible rfl
              rotate_left
              · simp only [Act.put, List.setIfInBounds_toArray, List.set_cons_zero, List.set_cons_succ, i64_w, i32_w]
                rfl
              refine pure_ (i := 4) (N := some 44) (v := ?_) (a' := ?_) #[true, false, true, true, true, false, false, false, false, false, false] rfl rfl (by kernel_rfl) (fun _ _ _ h => h) (Or.inl ⟨by rfl, ?_⟩) ?_ ?_
              rotate_left
              · intro w'
                go_simp
                with_reducible rfl
              rotate_left
              · simp only [Act.put, List.setIfInBounds_toArray, List.set_cons_zero, List.set_cons_succ, i64_w, i32_w]
                rfl
              refine pure_ (i := 5) (N := some 45) (v := ?_) (a' := ?_) #[true, false, true, true, true, true, false, false, false, false, false] rfl rfl (by kernel_rfl) (fun _ _ _ h => h) (Or.inl ⟨by rfl, ?_⟩) ?_ ?_
              rotate_left
              · intro w'
                go_simp
                with_reducible rfl
              rotate_left
              · simp only [Act.put, List.setIfInBounds_toArray, List.set_cons_zero, List.set_cons_succ, i64_w, i32_w]
                rfl
              refine pure_ (i := 6) (N := some 46) (v := ?_) (a' := ?_) #[true, false, true, true, true, true, true, false, false, false, false] rfl rfl (by kernel_rfl) (fun _ _ _ h => h) (Or.inl ⟨by rfl, ?_⟩) ?_ ?_
              rotate_left
              · intro w'
                go_simp
                with_reducible rfl
              rotate_left
              · simp only [Act.put, List.setIfInBounds_toArray, List.set_cons_zero, List.set_cons_succ, i64_w, i32_w]
                rfl
              refine pure_ (i := 7) (N := some 47) (v := ?_) (a' := ?_) #[true, false, true, true, true, true, true, true, false, false, false] rfl rfl (by kernel_rfl) (fun _ _ _ h => h) (Or.inl ⟨by rfl, ?_⟩) ?_ ?_
              rotate_left
              · intro w'
                go_simp
                with_reducible rfl
              rotate_left
              · simp only [Act.put, List.setIfInBounds_toArray, List.set_cons_zero, List.set_cons_succ, i64_w, i32_w]
                rfl
              refine pure_ (i := 8) (N := some 48) (v := ?_) (a' := ?_) #[true, false, true, true, true, true, true, true, true, false, false] rfl rfl (by kernel_rfl) (fun _ _ _ h => h) (Or.inl ⟨by rfl, ?_⟩) ?_ ?_
              rotate_left
              · intro w'
                go_simp
                with_reducible rfl
              rotate_left
              · simp only [Act.put, List.setIfInBounds_toArray, List.set_cons_zero, List.set_cons_succ, i64_w, i32_w]
                rfl
              refine one_ (i := 1) (N := some 41) #[true, true, true, true, true, true, true, true, true, false, false] rfl rfl (by kernel_rfl) (by decide) (fun K hK => ?_)
              refine goes_ Tryd.func16 (by kernel_rfl) rfl #[.slice A2 m c2] (by rfl) rfl rfl (by simp only [List.map_toArray, List.map_cons, List.map_nil]; rfl) ?_
              with_reducible refine ((F1'.out _ hHeld.2.2.1)).mono ?_
              rintro e' w3 ⟨A3, c3, rfl, r3, b3⟩
              refine ⟨_, rfl, ?_⟩
              refine hK.out _ _ ⟨(hHeld.1.below b3), (hHeld.2.1.trans (b3.mono hHeld.2.1.size)), (hHeld.2.2.1.below b3), (hHeld.2.2.2.1.below b3), (hHeld.2.2.2.2.below b3)⟩ (fun hHeld => ?_)
              clear hK K
              refine norm_ (a' := ?_) ?_ ?_
              rotate_left
              · show Act.put _ (some 41) _ = _
                simp only [Act.put, List.setIfInBounds_toArray, List.set_cons_zero, List.set_cons_succ, i64_w, i32_w]
                rfl
              refine one_ (i := 9) (N := some 49) #[true, true, true, true, true, true, true, true, true, true, false] rfl rfl (by kernel_rfl) (by decide) (fun K hK => ?_)
              refine goes_ Tryd.func15 (by kernel_rfl) rfl #[.slice A3 (frameB q).length c3, .slice (some ⟨g, k, none⟩) (8 + m) (c - k)] (by rfl) rfl rfl (by simp only [List.map_toArray, List.map_cons, List.map_nil]; rfl) ?_
              with_reducible refine ((F2'.out _ _ _ r3.bsa hHeld.1)).mono ?_
              rintro e' w4 ⟨rfl, b4⟩
              refine ⟨_, rfl, ?_⟩
              have B4 := hHeld.2.1.trans (b4.mono hHeld.2.1.size)
              have hL4 := hHeld.2.2.2.1.below b4
              have r4 := hHeld.2.2.2.2.below b4
              refine hK.out _ _ ⟨(hHeld.1.below b4), B4, (hHeld.2.2.1.below b4), hL4, r4⟩ (fun hHeld => ?_)
              clear hK K
              refine norm_ (a' := ?_) ?_ ?_
              rotate_left
              · show Act.put _ (some 49) _ = _
                simp only [Act.put, List.setIfInBounds_toArray, List.set_cons_zero, List.set_cons_succ, i64_w, i32_w]
                rfl
              refine pure_ (i := 10) (N := some 50) (v := ?_) (a' := ?_) #[true, true, true, true, true, true, true, true, true, true, true] rfl rfl (by kernel_rfl) (fun _ _ _ h => h) (Or.inl ⟨by rfl, ?_⟩) ?_ ?_
              rotate_left
              · intro w'
                go_simp
                with_reducible rfl
              rotate_left
              · simp only [Act.put, List.setIfInBounds_toArray, List.set_cons_zero, List.set_cons_succ, i64_w, i32_w]
                rfl
              refine done_ (by kernel_rfl) ?_
              clear u1 u2 u3 u4 u5 u6 u7 u8 r2' hL2 hp2 F1' F2'
              by_cases hfr : frameB q = (p.drop k).take (8 + m)
              · have hd : decide (frameB q = (p.drop k).take (8 + m)) = true := by simp [hfr]
                rw [hd]
                have hS1 := hS.out
                rw [scanB_some (show nextB (p.drop k) = some q by rw [HX.out, if_pos hfr]), List.drop_drop, LQ.out] at hS1
                have HS1 := hid hS1
                have sW4 : w.heap.size ≤ w4.heap.size := B4.size
                have al := below_alloc (Below.refl _ w4) (.cells #[.slice A2 m c2] 22)
                have hL5 := hL4.below al
                have r5 := r4.below al
                have hc5 : (w4.alloc (.cells #[.slice A2 m c2] 22)).cell? ⟨w4.heap.size, 0, none⟩ = some (partV (A2, c2, q)) := by
                  unfold partV
                  rw [show (A2, c2, q).2.2.length = m from LQ.out]
                  exact cell_at (heap_alloc_new w4 _) rfl
                have B5 := B4.alloc sW4 (.cells #[.slice A2 m c2] 22)
                have sW5 := B5.size
                have HC5 := hid hc5
                clear hd hfr hS1 hS hL4 r4 al B4 hc5 stop
                go_wp2_with (refine wpList_appP rfl (.tmp 51) (.tmp 53) rfl w.heap.size sW5 R c' ps (by rw [hN.out]; rfl) hL5 w4.heap.size (A2, c2, q) rfl HC5.out r5 (by rw [hN.out]; omega) (N + 1) (by rw [hN.out]) ?_)
                intro R6 c6 w6 hL6 b6
                have B6 := B5.trans b6
                have HL : Hid ((ps ++ [(A2, c2, q)]).length = N + 1) := hid (by rw [List.length_append, hN.out]; rfl)
                have HS6 : Hid (scanB p = ((ps ++ [(A2, c2, q)]).map (·.2.2) ++ (scanB (p.drop (k + (8 + m)))).1, (k + (8 + m)) + (scanB (p.drop (k + (8 + m)))).2)) := hid (by
                  rw [HS1.out]
                  simp only [List.map_append, List.map_cons, List.map_nil, List.append_assoc, List.cons_append, List.nil_append, Nat.add_assoc])
                clear hL5 r5 HC5 B5 b6
                go_wp2
                go_roundw
                case rel => exact ⟨k + (8 + m), N + 1, c6, R6, ps ++ [(A2, c2, q)], by omega, by go_num, rfl, HL, by omega, hL6, HS6, B6⟩
                case measure => dsimp only [intOf]; omega
              · have hd : decide (frameB q = (p.drop k).take (8 + m)) = false := by simp [hfr]
                rw [hd]
                have X := hid (stop.out (by rw [HX.out, if_neg hfr]))
                clear hd hfr hS stop
                go_wp2
                go_ret2
                exact ⟨R, c', ps, by rw [X.out, hN.out]; rfl, hL4, by rw [X.out], B4⟩
end Go.Proofs.YtponofojildbmaaDoor
