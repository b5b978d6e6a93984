/- ShaBlocks: bytes that stand behind others: noughts count, too. -/
import Derived.Test.YtcigijgiejnodaaDoorShaI
import Derived.Test.YtcigijgiejnodaaDoorAbc
import Derived.Test.YtcigijgiejnodaaDoorOpen
import Derived.Test.YtcigijgiejnodaaDoorMade
set_option linter.unusedVariables false
set_option linter.unusedSimpArgs false
namespace Go.Proofs.YtcigijgiejnodaaDoor
open Go.RowKit Go.ChangeShapes Go.WideShapes Go.Deep PrintLast

set_option maxHeartbeats 1600000 in
theorem blocks_walk {w : World} (hT : Table w) {A : Option Addr} {c : Nat} {p : List UInt8} {a b : Int} (hp : BSA w A c p) (ha : (Lit.int .u8 a).wf = true) (hb : (Lit.int .u8 b).wf = true) :
    Calls Tryd.prog 6 #[.slice A p.length c, .int .u8 a, .int .u8 b] w fun e w' => e = .returned (.bool true) ∧ Below w.heap.size w w' := by
  by_cases h : 100 < p.length
  · have t : decide ((100 : Int) < (p.length : Int)) = true := by simp; omega
    have HA := hid (abc_any hT)
    go_enter Tryd.func6, Tryd.ntmps6
    go_wp2_with fail
    refine HA.out.mono ?_
    rintro e w1 ⟨rfl, b1⟩
    go_wp2
    go_ret
    exact ⟨rfl, b1⟩
  · have t : decide ((100 : Int) < (p.length : Int)) = false := by simp; omega
    have ha' := bounds_u8 ha
    have hb' := bounds_u8 hb
    obtain ⟨a, rfl⟩ : ∃ N : Nat, a = (N : Int) := ⟨a.toNat, by omega⟩
    obtain ⟨b, rfl⟩ : ∃ N : Nat, b = (N : Int) := ⟨b.toNat, by omega⟩
    obtain ⟨x, hx⟩ : ∃ x, x = List.replicate (a % 80) (0 : UInt8) := ⟨_, rfl⟩
    obtain ⟨y, hy⟩ : ∃ x, x = List.replicate (b % 80) (0 : UInt8) := ⟨_, rfl⟩
    have xl : x.length = a % 80 := by rw [hx]; simp
    have yl : y.length = b % 80 := by rw [hy]; simp
    obtain ⟨m, hm⟩ : ∃ m, m = a % 80 := ⟨_, rfl⟩
    obtain ⟨n, hn⟩ : ∃ m, m = b % 80 := ⟨_, rfl⟩
    rw [← hm] at hx xl
    rw [← hn] at hy yl
    have hm8 : m < 80 := by omega
    have hn8 : n < 80 := by omega
    have ta : (a : Int).tmod 80 = (m : Int) := by rw [Int.tmod_eq_emod_of_nonneg (by omega)]; omega
    have tb : (b : Int).tmod 80 = (n : Int) := by rw [Int.tmod_eq_emod_of_nonneg (by omega)]; omega
    have ta' : (a : Int) % 80 = (m : Int) := by omega
    have tb' : (b : Int) % 80 = (n : Int) := by omega
    obtain ⟨n1, hn1⟩ : ∃ k, k = m + p.length := ⟨_, rfl⟩
    obtain ⟨n2, hn2⟩ : ∃ k, k = n1 + n := ⟨_, rfl⟩
    have l1 : (x ++ p).length = n1 := by rw [List.length_append, xl, hn1]
    have l2 : ((x ++ p) ++ y).length = n2 := by rw [List.length_append, l1, yl, hn2]
    have hn2' : n2 ≤ 300 := by omega
    have HJ1 := hid (fun (w : World) (h2 : BSA w A c p) (A1 : Option Addr) (c1 : Nat) (h1 : BSA w A1 c1 x) => show Calls Tryd.prog 11 #[.slice A1 m c1, .slice A p.length c] w fun e w' => ∃ A' c', e = .returned (.slice A' n1 c') ∧ Made w w' (.slice A' n1 c') (x ++ p) by
      have := join_any h1 h2 (by omega)
      rw [xl, ← hn1] at this
      exact this)
    have HJ2 := hid (fun (w : World) (A1 A2 : Option Addr) (c1 c2 : Nat) (h1 : BSA w A1 c1 (x ++ p)) (h2 : BSA w A2 c2 y) => show Calls Tryd.prog 11 #[.slice A1 n1 c1, .slice A2 n c2] w fun e w' => ∃ A' c', e = .returned (.slice A' n2 c') ∧ Made w w' (.slice A' n2 c') ((x ++ p) ++ y) by
      have := join_any h1 h2 (by omega)
      rw [l1, yl, ← hn2] at this
      exact this)
    have MX : ∀ {w0 w1 : World} (g : Nat), Below w0.heap.size w0 w1 → w1.heap.size = g → BSA (w1.alloc (.cells (madeCells #[.int .u8 0] m) 5)) (some ⟨g, 0, none⟩) m x := fun g h e => by subst e; rw [hx]; exact noughts_bsa h (by unfold maxLen; omega)
    have MY : ∀ {w0 w1 : World} (g : Nat), Below w0.heap.size w0 w1 → w1.heap.size = g → BSA (w1.alloc (.cells (madeCells #[.int .u8 0] n) 5)) (some ⟨g, 0, none⟩) n y := fun g h e => by subst e; rw [hy]; exact noughts_bsa h (by unfold maxLen; omega)
    have mk1 := fun (w : World) => run_make_row' (P := Tryd.prog) 22 5 (.int .u8 0) 1 Tryd.underlying22 infU8 rfl .i64 .i64 m (by omega) (by omega) w
    have mk2 := fun (w : World) => run_make_row' (P := Tryd.prog) 22 5 (.int .u8 0) 1 Tryd.underlying22 infU8 rfl .i64 .i64 n (by omega) (by omega) w
    obtain ⟨q, hq⟩ : ∃ q, q = (x ++ p) ++ y := ⟨_, rfl⟩
    rw [← hq] at HJ2 l2
    have HTB := hid hT
    have L1 := hid l1
    have L2 := hid l2
    clear hT ha hb ha' hb' hx hy xl yl hm hn hn1 hn2 l1 l2 hq h
    go_enter Tryd.func6, Tryd.ntmps6
    have wm : wrap64 (m : Int) = (m : Int) := by unfold wrap64; omega
    have wn : wrap64 (n : Int) = (n : Int) := by unfold wrap64; omega
    go_wp2
    refine start_ (n := 12) (S := fun w' => BSA w' A c p ∧ Below w.heap.size w w') (ds := []) #[false, false, false, false, false, false, false, false, false, false, false, false] (by kernel_rfl) rfl rfl ⟨hp, (Below.refl _ w).drew⟩ (fun hHeld => ?_)
    refine pure_ (i := 0) (N := some 12) (v := ?_) (a' := ?_) #[true, false, false, false, false, false, false, false, false, false, false, false] rfl rfl (by kernel_rfl) (fun _ _ _ h => h) (Or.inl ⟨by rfl, ?_⟩) ?_ ?_
    rotate_left
    · intro w'
      go_simp
      with_reducible rfl
    rotate_left
    · simp only [Act.put, List.setIfInBounds_toArray, List.set_cons_zero, List.set_cons_succ, i64_w, i32_w]
      rfl
    refine pure_ (i := 1) (N := some 13) (v := ?_) (a' := ?_) #[true, true, false, false, false, false, false, false, false, false, false, false] rfl rfl (by kernel_rfl) (fun _ _ _ h => h) (Or.inl ⟨by rfl, ?_⟩) ?_ ?_
    rotate_left
    · intro w'
      go_simp
      with_reducible rfl
    rotate_left
    · simp only [Act.put, List.setIfInBounds_toArray, List.set_cons_zero, List.set_cons_succ, i64_w, i32_w]
      rfl
    refine pure_ (i := 2) (N := some 14) (v := ?_) (a' := ?_) #[true, true, true, false, false, false, false, false, false, false, false, false] rfl rfl (by kernel_rfl) (fun _ _ _ h => h) (Or.inl ⟨by rfl, ?_⟩) ?_ ?_
    rotate_left
    · intro w'
      go_simp
      with_reducible rfl
    rotate_left
    · simp only [Act.put, List.setIfInBounds_toArray, List.set_cons_zero, List.set_cons_succ, i64_w, i32_w]
      rfl
    refine pure_ (i := 4) (N := some 16) (v := ?_) (a' := ?_) #[true, true, true, false, true, false, false, false, false, false, false, false] rfl rfl (by kernel_rfl) (fun _ _ _ h => h) (Or.inl ⟨by rfl, ?_⟩) ?_ ?_
    rotate_left
    · intro w'
      go_simp
      with_reducible rfl
    rotate_left
    · simp only [Act.put, List.setIfInBounds_toArray, List.set_cons_zero, List.set_cons_succ, i64_w, i32_w]
      rfl
    refine pure_ (i := 6) (N := some 18) (v := ?_) (a' := ?_) #[true, true, true, false, true, false, true, false, false, false, false, false] rfl rfl (by kernel_rfl) (fun _ _ _ h => h) (Or.inl ⟨by rfl, ?_⟩) ?_ ?_
    rotate_left
    · intro w'
      go_simp
      with_reducible rfl
    rotate_left
    · simp only [Act.put, List.setIfInBounds_toArray, List.set_cons_zero, List.set_cons_succ, i64_w, i32_w]
      rfl
    refine pure_ (i := 7) (N := some 19) (v := ?_) (a' := ?_) #[true, true, true, false, true, false, true, true, false, false, false, false] rfl rfl (by kernel_rfl) (fun _ _ _ h => h) (Or.inl ⟨by rfl, ?_⟩) ?_ ?_
    rotate_left
    · intro w'
      go_simp
      with_reducible rfl
    rotate_left
    · simp only [Act.put, List.setIfInBounds_toArray, List.set_cons_zero, List.set_cons_succ, i64_w, i32_w]
      rfl
    refine pure_ (i := 8) (N := some 20) (v := ?_) (a' := ?_) #[true, true, true, false, true, false, true, true, true, false, false, false] rfl rfl (by kernel_rfl) (fun _ _ _ h => h) (Or.inl ⟨by rfl, ?_⟩) ?_ ?_
    rotate_left
    · intro w'
      go_simp
      with_reducible rfl
    rotate_left
    · simp only [Act.put, List.setIfInBounds_toArray, List.set_cons_zero, List.set_cons_succ, i64_w, i32_w]
      rfl
    refine join_ (σ := Nat × Option Addr × Nat × Nat) 2 #[true, true, true, true, true, true, true, true, true, true, false, false] (fun s => [(15, .slice (some ⟨s.1, 0, none⟩) m m), (17, .slice s.2.1 n1 s.2.2.1), (21, .slice (some ⟨s.2.2.2, 0, none⟩) n n)]) (fun s w' => BSA w' (some ⟨s.1, 0, none⟩) m x ∧ BSA w' s.2.1 s.2.2.1 (x ++ p) ∧ BSA w' (some ⟨s.2.2.2, 0, none⟩) n y ∧ BSA w' A c p ∧ Below w.heap.size w w') ?_ ?_
    rotate_left
    · intro hCont
      refine two_ (i := 3) (j := 9) (Ni := some 15) (Nj := some 21) #[true, true, true, true, true, false, true, true, true, false, false, false] #[true, true, true, false, true, false, true, true, true, true, false, false] rfl rfl rfl rfl (by kernel_rfl) (by decide) (by decide) (fun K hK => ?_) (fun K hK => ?_)
      · skip
        refine value_ (w1 := ?_) (v := ?_) (by rfl) rfl ?_ ?_
        rotate_left 2
        · go_simp
          constructor
          · rfl
          · rfl
        have m3 := MX w.heap.size hHeld.2 (by simp)
        refine hK.out _ _ ⟨(hHeld.1.below (below_alloc (Below.refl _ _) _)), (below_alloc hHeld.2 _)⟩ (fun hHeld => ?_)
        clear hK K
        refine norm_ (a' := ?_) ?_ ?_
        rotate_left
        · show Act.put _ (some 15) _ = _
          simp only [Act.put, List.setIfInBounds_toArray, List.set_cons_zero, List.set_cons_succ, i64_w, i32_w]
          rfl
        refine two_ (i := 5) (j := 9) (Ni := some 17) (Nj := some 21) #[true, true, true, true, true, true, true, true, true, false, false, false] #[true, true, true, true, true, false, true, true, true, true, false, false] rfl rfl rfl rfl (by kernel_rfl) (by decide) (by decide) (fun K hK => ?_) (fun K hK => ?_)
        · skip
          have hC := HJ1.out _ hHeld.1 _ _ m3
          refine goes_ Tryd.func11 (by kernel_rfl) rfl #[.slice (some ⟨_, 0, none⟩) m m, .slice A p.length c] (by rfl) rfl rfl (by simp only [List.map_toArray, List.map_cons, List.map_nil]; rfl) ?_
          with_reducible refine (hC).mono ?_
          rintro e' w5 ⟨A5, c5, rfl, k5⟩
          refine ⟨_, rfl, ?_⟩
          have m5 := (k5.row L1.out.symm).bsa
          replace m3 := m3.below k5.2.2
          refine hK.out _ _ ⟨(hHeld.1.below k5.2.2), (below_then hHeld.2 k5.2.2)⟩ (fun hHeld => ?_)
          clear hK K
          refine norm_ (a' := ?_) ?_ ?_
          rotate_left
          · show Act.put _ (some 17) _ = _
            simp only [Act.put, List.setIfInBounds_toArray, List.set_cons_zero, List.set_cons_succ, i64_w, i32_w]
            rfl
          refine one_ (i := 9) (N := some 21) #[true, true, true, true, true, true, true, true, true, true, false, false] rfl rfl (by kernel_rfl) (by decide) (fun K hK => ?_)
          refine value_ (w1 := ?_) (v := ?_) (by rfl) rfl ?_ ?_
          rotate_left 2
          · go_simp
            constructor
            · rfl
            · rfl
          have m9 := MY w5.heap.size hHeld.2 (by simp)
          replace m3 := m3.below (below_alloc (Below.refl _ _) (.cells (madeCells #[.int .u8 0] n) 5))
          replace m5 := m5.below (below_alloc (Below.refl _ _) (.cells (madeCells #[.int .u8 0] n) 5))
          refine hK.out _ _ ⟨(hHeld.1.below (below_alloc (Below.refl _ _) _)), (below_alloc hHeld.2 _)⟩ (fun hHeld => ?_)
          clear hK K
          refine norm_ (a' := ?_) ?_ ?_
          rotate_left
          · show Act.put _ (some 21) _ = _
            simp only [Act.put, List.setIfInBounds_toArray, List.set_cons_zero, List.set_cons_succ, i64_w, i32_w]
            rfl
          exact norm_ (by simp only [putAll, Act.put, List.setIfInBounds_toArray, List.set_cons_zero, List.set_cons_succ]) (hCont (w.heap.size, A5, c5, w5.heap.size) _ ⟨m3, m5, m9, hHeld.1, hHeld.2⟩)
        · skip
          refine value_ (w1 := ?_) (v := ?_) (by rfl) rfl ?_ ?_
          rotate_left 2
          · go_simp
            constructor
            · rfl
            · rfl
          have m9 := MY (w.heap.size + 1) hHeld.2 (by simp)
          replace m3 := m3.below (below_alloc (Below.refl _ _) (.cells (madeCells #[.int .u8 0] n) 5))
          refine hK.out _ _ ⟨(hHeld.1.below (below_alloc (Below.refl _ _) _)), (below_alloc hHeld.2 _)⟩ (fun hHeld => ?_)
          clear hK K
          refine norm_ (a' := ?_) ?_ ?_
          rotate_left
          · show Act.put _ (some 21) _ = _
            simp only [Act.put, List.setIfInBounds_toArray, List.set_cons_zero, List.set_cons_succ, i64_w, i32_w]
            rfl
          refine one_ (i := 5) (N := some 17) #[true, true, true, true, true, true, true, true, true, true, false, false] rfl rfl (by kernel_rfl) (by decide) (fun K hK => ?_)
          have hC := HJ1.out _ hHeld.1 _ _ m3
          refine goes_ Tryd.func11 (by kernel_rfl) rfl #[.slice (some ⟨_, 0, none⟩) m m, .slice A p.length c] (by rfl) rfl rfl (by simp only [List.map_toArray, List.map_cons, List.map_nil]; rfl) ?_
          with_reducible refine (hC).mono ?_
          rintro e' w5 ⟨A5, c5, rfl, k5⟩
          refine ⟨_, rfl, ?_⟩
          have m5 := (k5.row L1.out.symm).bsa
          replace m3 := m3.below k5.2.2
          replace m9 := m9.below k5.2.2
          refine hK.out _ _ ⟨(hHeld.1.below k5.2.2), (below_then hHeld.2 k5.2.2)⟩ (fun hHeld => ?_)
          clear hK K
          refine norm_ (a' := ?_) ?_ ?_
          rotate_left
          · show Act.put _ (some 17) _ = _
            simp only [Act.put, List.setIfInBounds_toArray, List.set_cons_zero, List.set_cons_succ, i64_w, i32_w]
            rfl
          exact norm_ (by simp only [putAll, Act.put, List.setIfInBounds_toArray, List.set_cons_zero, List.set_cons_succ]) (hCont (w.heap.size, A5, c5, w.heap.size + 1) _ ⟨m3, m5, m9, hHeld.1, hHeld.2⟩)
      · skip
        refine value_ (w1 := ?_) (v := ?_) (by rfl) rfl ?_ ?_
        rotate_left 2
        · go_simp
          constructor
          · rfl
          · rfl
        have m9 := MY w.heap.size hHeld.2 (by simp)
        refine hK.out _ _ ⟨(hHeld.1.below (below_alloc (Below.refl _ _) _)), (below_alloc hHeld.2 _)⟩ (fun hHeld => ?_)
        clear hK K
        refine norm_ (a' := ?_) ?_ ?_
        rotate_left
        · show Act.put _ (some 21) _ = _
          simp only [Act.put, List.setIfInBounds_toArray, List.set_cons_zero, List.set_cons_succ, i64_w, i32_w]
          rfl
        refine one_ (i := 3) (N := some 15) #[true, true, true, true, true, false, true, true, true, true, false, false] rfl rfl (by kernel_rfl) (by decide) (fun K hK => ?_)
        refine value_ (w1 := ?_) (v := ?_) (by rfl) rfl ?_ ?_
        rotate_left 2
        · go_simp
          constructor
          · rfl
          · rfl
        have m3 := MX (w.heap.size + 1) hHeld.2 (by simp)
        replace m9 := m9.below (below_alloc (Below.refl _ _) (.cells (madeCells #[.int .u8 0] m) 5))
        refine hK.out _ _ ⟨(hHeld.1.below (below_alloc (Below.refl _ _) _)), (below_alloc hHeld.2 _)⟩ (fun hHeld => ?_)
        clear hK K
        refine norm_ (a' := ?_) ?_ ?_
        rotate_left
        · show Act.put _ (some 15) _ = _
          simp only [Act.put, List.setIfInBounds_toArray, List.set_cons_zero, List.set_cons_succ, i64_w, i32_w]
          rfl
        refine one_ (i := 5) (N := some 17) #[true, true, true, true, true, true, true, true, true, true, false, false] rfl rfl (by kernel_rfl) (by decide) (fun K hK => ?_)
        have hC := HJ1.out _ hHeld.1 _ _ m3
        refine goes_ Tryd.func11 (by kernel_rfl) rfl #[.slice (some ⟨_, 0, none⟩) m m, .slice A p.length c] (by rfl) rfl rfl (by simp only [List.map_toArray, List.map_cons, List.map_nil]; rfl) ?_
        with_reducible refine (hC).mono ?_
        rintro e' w5 ⟨A5, c5, rfl, k5⟩
        refine ⟨_, rfl, ?_⟩
        have m5 := (k5.row L1.out.symm).bsa
        replace m3 := m3.below k5.2.2
        replace m9 := m9.below k5.2.2
        refine hK.out _ _ ⟨(hHeld.1.below k5.2.2), (below_then hHeld.2 k5.2.2)⟩ (fun hHeld => ?_)
        clear hK K
        refine norm_ (a' := ?_) ?_ ?_
        rotate_left
        · show Act.put _ (some 17) _ = _
          simp only [Act.put, List.setIfInBounds_toArray, List.set_cons_zero, List.set_cons_succ, i64_w, i32_w]
          rfl
        exact norm_ (by simp only [putAll, Act.put, List.setIfInBounds_toArray, List.set_cons_zero, List.set_cons_succ]) (hCont (w.heap.size + 1, A5, c5, w.heap.size) _ ⟨m3, m5, m9, hHeld.1, hHeld.2⟩)
    rintro ⟨a3, A5, c5, a9⟩ w1 ⟨m3, m5, m9, h1, h2⟩
    have hHeld : BSA w1 A c p ∧ Below w.heap.size w w1 := ⟨h1, h2⟩
    refine norm_ (a' := ?_) ?_ ?_
    rotate_left
    · simp only [putAll, Act.put, List.setIfInBounds_toArray, List.set_cons_zero, List.set_cons_succ]
      rfl
    refine one_ (i := 10) (N := some 22) #[true, true, true, true, true, true, true, true, true, true, true, false] rfl rfl (by kernel_rfl) (by decide) (fun K hK => ?_)
    refine goes_ Tryd.func11 (by kernel_rfl) rfl #[.slice A5 n1 c5, .slice (some ⟨a9, 0, none⟩) n n] (by rfl) rfl rfl (by simp only [List.map_toArray, List.map_cons, List.map_nil]; rfl) ?_
    with_reducible refine ((HJ2.out _ _ _ _ _ m5 m9)).mono ?_
    rintro e' w2 ⟨A2, c2, rfl, k2⟩
    refine ⟨_, rfl, ?_⟩
    refine hK.out _ _ ⟨(h1.below k2.2.2), (below_then h2 k2.2.2)⟩ (fun hHeld => ?_)
    clear hK K
    refine norm_ (a' := ?_) ?_ ?_
    rotate_left
    · show Act.put _ (some 22) _ = _
      simp only [Act.put, List.setIfInBounds_toArray, List.set_cons_zero, List.set_cons_succ, i64_w, i32_w]
      rfl
    refine pure_ (i := 11) (N := some 7) (v := ?_) (a' := ?_) #[true, true, true, true, true, true, true, true, true, true, true, true] rfl rfl (by kernel_rfl) (fun _ _ _ h => h) (Or.inl ⟨by rfl, ?_⟩) ?_ ?_
    rotate_left
    · intro w'
      go_simp
      with_reducible rfl
    rotate_left
    · simp only [Act.put, List.setIfInBounds_toArray, List.set_cons_zero, List.set_cons_succ, i64_w, i32_w]
      rfl
    refine done_ (by kernel_rfl) ?_
    have b2 := below_then h2 k2.2.2
    have r2 := (k2.row L2.out.symm).bsa
    clear k2 m3 m5 m9 h1 h2 wm wn mk1 mk2
    have HA := hid (abc_any (HTB.out.below b2))
    go_wp2_with fail
    refine HA.out.mono ?_
    rintro e w3 ⟨rfl, b3⟩
    have HS0 := sum_any (HTB.out.below (below_then b2 b3)) (r2.below b3) (by rw [L2.out]; omega)
    rw [L2.out] at HS0
    have HS := hid HS0
    clear HS0
    go_wp2_with fail
    refine HS.out.mono ?_
    rintro e w4 ⟨rfl, b4⟩
    have HR0 := rsum_any ((r2.below b3).below b4) (by rw [L2.out]; omega)
    rw [L2.out] at HR0
    have HR := hid HR0
    clear HR0
    go_wp2_with fail
    refine HR.out.mono ?_
    rintro e w5 ⟨rfl, b5⟩
    have tt : (((⟨(sum256 q).toArray⟩ : ByteArray).toList == (⟨(sum256 q).toArray⟩ : ByteArray).toList)) = true := by simp
    go_wp2
    go_ret
    exact ⟨rfl, below_then (below_then (below_then b2 b3) b4) b5⟩
end Go.Proofs.YtcigijgiejnodaaDoor
