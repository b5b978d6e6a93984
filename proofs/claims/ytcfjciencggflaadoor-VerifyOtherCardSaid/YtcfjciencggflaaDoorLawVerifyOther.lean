/- VerifyOther: of another key than the one that is asked: just as the document does. -/
import Derived.Test.YtcfjciencggflaaDoorV6
set_option linter.unusedVariables false
set_option linter.unusedSimpArgs false
namespace Go.Proofs.YtcfjciencggflaaDoor
open Go.RowKit PrintLast

theorem lit2 {w0 W : World} (kb : UInt8) (h : Below w0.heap.size w0 W) : BSA (W.alloc (.cells #[.int .u8 107, .int .u8 (kb.toNat : Int)] 5)) (some ⟨W.heap.size, 0, none⟩) 2 [107, kb] ∧ Below w0.heap.size w0 (W.alloc (.cells #[.int .u8 107, .int .u8 (kb.toNat : Int)] 5)) ∧ Below W.heap.size W (W.alloc (.cells #[.int .u8 107, .int .u8 (kb.toNat : Int)] 5)) :=
  ⟨(lits_row W (Nat.zero_le _) [107, kb] (by simp)).bsa, below_then h (below_alloc (Below.refl _ W) _), below_alloc (Below.refl _ W) _⟩
theorem conv_at {w0 W : World} {g g' : Nat} {l : List UInt8} (_h : Below w0.heap.size w0 W) (z : BSA W (some ⟨g', 0, none⟩) 2 l) (hl : l.length = 2) (hg : g' = g) : (convert 22 9 (.slice (some ⟨g, 0, none⟩) 2 2)).run Tryd.prog W = .ok (.string (strB l)) W := by
  subst hg
  exact conv_any hl z

set_option maxRecDepth 100000 in
set_option maxHeartbeats 12800000 in
theorem other_walk {w : World} (hT : Table w) {A C : Option Addr} {cap c : Nat} {l : List PAct} {u' y' : Int} {seed : List UInt8} (h0 : l.length ≤ cap ∧ cap ≤ maxLen ∧ PActsAt w A l) (hu : (Lit.int .u8 u').wf = true) (hy : (Lit.int .u8 y').wf = true) (hs : BSA w C c seed) :
    Calls Tryd.prog 8 #[.slice A l.length cap, .int .u8 u', .int .u8 y', .slice C seed.length c] w fun e w' => e = .returned (.bool true) ∧ Below w.heap.size w w' := by
  obtain ⟨u, rfl⟩ : ∃ b8 : UInt8, u' = (b8.toNat : Int) := ⟨UInt8.ofNat u'.toNat, (u8_of_int hu).symm⟩
  obtain ⟨y, rfl⟩ : ∃ b8 : UInt8, y' = (b8.toNat : Int) := ⟨UInt8.ofNat y'.toNat, (u8_of_int hy).symm⟩
  obtain ⟨n, hn⟩ : ∃ n, n = l.length := ⟨_, rfl⟩
  obtain ⟨r, hr⟩ : ∃ r, r = seed.length := ⟨_, rfl⟩
  rw [← hn] at h0 ⊢
  rw [← hr]
  have r9 : r ≤ 9223372036854775807 := by rw [hr]; exact hs.le
  have HN := hid hn.symm
  have HC := hid (And.intro h0.1 h0.2.1)
  have AA := hid h0.2.2
  have SL := hid hr.symm
  have SB := hid hs
  have TT := hid hT
  have BB := hid (Below.refl w.heap.size w)
  clear hn hr hT h0 hu hy hs
  by_cases hsm : SmallL l
  · have hd : decide (SmallL l) = true := by simp [hsm]
    have SM := hid hsm
    have HD := hid hd
    clear hsm hd
    by_cases hg : 20 < r
    · have t1 : decide ((20 : Int) < (r : Int)) = true := by simp; omega
      clear hg
      go_enter Tryd.func8, Tryd.ntmps8
      have HC1 := hid (vlink_any TT.out)
      go_wp2_with fail
      refine HC1.out.mono ?_
      rintro e w1 ⟨rfl, b1⟩
      clear HC1
      replace TT := hid (TT.out.below b1)
      replace AA := hid (AA.out.below b1)
      replace SB := hid (SB.out.below b1)
      replace BB := hid (below_then BB.out b1)
      clear b1
      have S0 := small_any HN.out AA.out HC.out.1 HC.out.2
      rw [HD.out] at S0
      have S1 := hid S0
      clear S0
      go_wp2_with fail
      refine S1.out.mono ?_
      rintro e w2 ⟨rfl, rfl⟩
      clear S1
      have HC2 := hid (vlink_any TT.out)
      go_wp2_with fail
      refine HC2.out.mono ?_
      rintro e w3 ⟨rfl, b3⟩
      clear HC2
      replace TT := hid (TT.out.below b3)
      replace AA := hid (AA.out.below b3)
      replace SB := hid (SB.out.below b3)
      replace BB := hid (below_then BB.out b3)
      clear b3
      go_wp2
      go_ret
      exact ⟨rfl, BB.out⟩
    · have t1 : decide ((20 : Int) < (r : Int)) = false := by simp; omega
      have R20 : r ≤ 20 := by omega
      clear hg
      go_enter Tryd.func8, Tryd.ntmps8
      have HC1 := hid (vlink_any TT.out)
      go_wp2_with fail
      refine HC1.out.mono ?_
      rintro e w1 ⟨rfl, b1⟩
      clear HC1
      replace TT := hid (TT.out.below b1)
      replace AA := hid (AA.out.below b1)
      replace SB := hid (SB.out.below b1)
      replace BB := hid (below_then BB.out b1)
      clear b1
      have S0 := small_any HN.out AA.out HC.out.1 HC.out.2
      rw [HD.out] at S0
      have S1 := hid S0
      clear S0
      go_wp2_with fail
      refine S1.out.mono ?_
      rintro e w2 ⟨rfl, rfl⟩
      clear S1
      obtain ⟨ka, hka⟩ : ∃ kb : UInt8, kb = u % 26 := ⟨_, rfl⟩
      have e1 : ((u.toNat : Int)).tmod 26 = (ka.toNat : Int) := by rw [Int.tmod_eq_emod_of_nonneg (by omega), hka, UInt8.toNat_mod]; rfl
      obtain ⟨kb, hkb⟩ : ∃ kb : UInt8, kb = y % 26 := ⟨_, rfl⟩
      have e2 : ((y.toNat : Int)).tmod 26 = (kb.toNat : Int) := by rw [Int.tmod_eq_emod_of_nonneg (by omega), hkb, UInt8.toNat_mod]; rfl
      clear hka hkb
      go_wp2
      refine start_ (n := 10) (S := fun w' => Below w1.heap.size w1 w') (ds := []) #[false, false, false, false, false, false, false, false, false, false] (by kernel_rfl) rfl rfl ((Below.refl w1.heap.size w1).drew) (fun hHeld => ?_)
      refine pure_ (i := 0) (N := some 28) (v := ?_) (a' := ?_) #[true, false, false, false, false, false, false, false, false, false] rfl rfl (by kernel_rfl) (fun _ _ _ h => h) (Or.inl ⟨by rfl, ?_⟩) ?_ ?_
      rotate_left
      · intro w'
        go_simp
        with_reducible rfl
      rotate_left
      · simp only [Act.put, List.setIfInBounds_toArray, List.set_cons_zero, List.set_cons_succ, i64_w, i32_w]
        rfl
      refine pure_ (i := 1) (N := some 29) (v := ?_) (a' := ?_) #[true, true, false, false, false, false, false, false, false, false] rfl rfl (by kernel_rfl) (fun _ _ _ h => h) (Or.inl ⟨by rfl, ?_⟩) ?_ ?_
      rotate_left
      · intro w'
        go_simp
        with_reducible rfl
      rotate_left
      · simp only [Act.put, List.setIfInBounds_toArray, List.set_cons_zero, List.set_cons_succ, i64_w, i32_w]
        rfl
      refine pure_ (i := 4) (N := some 32) (v := ?_) (a' := ?_) #[true, true, false, false, true, false, false, false, false, false] rfl rfl (by kernel_rfl) (fun _ _ _ h => h) (Or.inl ⟨by rfl, ?_⟩) ?_ ?_
      rotate_left
      · intro w'
        go_simp
        with_reducible rfl
      rotate_left
      · simp only [Act.put, List.setIfInBounds_toArray, List.set_cons_zero, List.set_cons_succ, i64_w, i32_w]
        rfl
      refine pure_ (i := 5) (N := some 33) (v := ?_) (a' := ?_) #[true, true, false, false, true, true, false, false, false, false] rfl rfl (by kernel_rfl) (fun _ _ _ h => h) (Or.inl ⟨by rfl, ?_⟩) ?_ ?_
      rotate_left
      · intro w'
        go_simp
        with_reducible rfl
      rotate_left
      · simp only [Act.put, List.setIfInBounds_toArray, List.set_cons_zero, List.set_cons_succ, i64_w, i32_w]
        rfl
      refine join_ (σ := Nat × Nat) 1 #[true, true, true, true, true, true, true, true, true, false] (fun s => [(30, .slice (some ⟨s.1, 0, none⟩) 2 2), (31, .string (strB [107, ka])), (9, .string (strB [107, ka])), (34, .slice (some ⟨s.2, 0, none⟩) 2 2), (35, .string (strB [107, kb]))]) (fun s w' => Below w1.heap.size w1 w') ?_ ?_
      rotate_left
      · intro hCont
        refine two_ (i := 2) (j := 6) (Ni := some 30) (Nj := some 34) #[true, true, true, false, true, true, false, false, false, false] #[true, true, false, false, true, true, true, false, false, false] rfl rfl rfl rfl (by kernel_rfl) (by decide) (by decide) (fun K hK => ?_) (fun K hK => ?_)
        · skip
          refine value_ (w1 := ?_) (v := ?_) (by rfl) rfl ?_ ?_
          rotate_left 2
          · go_simp
            constructor
            · rfl
            · rfl
          have z1 := (lit2 ka hHeld).1
          refine hK.out _ _ ((lit2 ka hHeld).2.1) (fun hHeld => ?_)
          clear hK K
          refine norm_ (a' := ?_) ?_ ?_
          rotate_left
          · show Act.put _ (some 30) _ = _
            simp only [Act.put, List.setIfInBounds_toArray, List.set_cons_zero, List.set_cons_succ, i64_w, i32_w]
            rfl
          refine two_ (i := 3) (j := 6) (Ni := some 31) (Nj := some 34) #[true, true, true, true, true, true, false, false, false, false] #[true, true, true, false, true, true, true, false, false, false] rfl rfl rfl rfl (by kernel_rfl) (by decide) (by decide) (fun K hK => ?_) (fun K hK => ?_)
          · skip
            have cva := conv_at (g := w1.heap.size) (l := [107, ka]) hHeld z1 rfl (by first | rfl | simp)
            refine value_ (w1 := ?_) (v := ?_) (by rfl) rfl ?_ ?_
            rotate_left 2
            · go_simp
              constructor
              · rfl
              · rfl
            refine hK.out _ _ (hHeld) (fun hHeld => ?_)
            clear hK K
            refine norm_ (a' := ?_) ?_ ?_
            rotate_left
            · show Act.put _ (some 31) _ = _
              simp only [Act.put, List.setIfInBounds_toArray, List.set_cons_zero, List.set_cons_succ, i64_w, i32_w]
              rfl
            refine pure_ (i := 8) (N := some 9) (v := ?_) (a' := ?_) #[true, true, true, true, true, true, false, false, true, false] rfl rfl (by kernel_rfl) (fun _ _ _ h => h) (Or.inl ⟨by rfl, ?_⟩) ?_ ?_
            rotate_left
            · intro w'
              go_simp
              with_reducible rfl
            rotate_left
            · simp only [Act.put, List.setIfInBounds_toArray, List.set_cons_zero, List.set_cons_succ, i64_w, i32_w]
              rfl
            refine one_ (i := 6) (N := some 34) #[true, true, true, true, true, true, true, false, true, false] rfl rfl (by kernel_rfl) (by decide) (fun K hK => ?_)
            refine value_ (w1 := ?_) (v := ?_) (by rfl) rfl ?_ ?_
            rotate_left 2
            · go_simp
              constructor
              · rfl
              · rfl
            have z2 := (lit2 kb hHeld).1
            refine hK.out _ _ ((lit2 kb hHeld).2.1) (fun hHeld => ?_)
            clear hK K
            refine norm_ (a' := ?_) ?_ ?_
            rotate_left
            · show Act.put _ (some 34) _ = _
              simp only [Act.put, List.setIfInBounds_toArray, List.set_cons_zero, List.set_cons_succ, i64_w, i32_w]
              rfl
            refine one_ (i := 7) (N := some 35) #[true, true, true, true, true, true, true, true, true, false] rfl rfl (by kernel_rfl) (by decide) (fun K hK => ?_)
            have cvb := conv_at (g := w1.heap.size + 1) (l := [107, kb]) hHeld z2 rfl (by first | rfl | simp)
            refine value_ (w1 := ?_) (v := ?_) (by rfl) rfl ?_ ?_
            rotate_left 2
            · go_simp
              constructor
              · rfl
              · rfl
            refine hK.out _ _ (hHeld) (fun hHeld => ?_)
            clear hK K
            refine norm_ (a' := ?_) ?_ ?_
            rotate_left
            · show Act.put _ (some 35) _ = _
              simp only [Act.put, List.setIfInBounds_toArray, List.set_cons_zero, List.set_cons_succ, i64_w, i32_w]
              rfl
            exact norm_ (by simp only [putAll, Act.put, List.setIfInBounds_toArray, List.set_cons_zero, List.set_cons_succ]) (hCont (w1.heap.size, w1.heap.size + 1) _ hHeld)
          · skip
            refine value_ (w1 := ?_) (v := ?_) (by rfl) rfl ?_ ?_
            rotate_left 2
            · go_simp
              constructor
              · rfl
              · rfl
            have z2 := (lit2 kb hHeld).1
            replace z1 := z1.below (lit2 kb hHeld).2.2
            refine hK.out _ _ ((lit2 kb hHeld).2.1) (fun hHeld => ?_)
            clear hK K
            refine norm_ (a' := ?_) ?_ ?_
            rotate_left
            · show Act.put _ (some 34) _ = _
              simp only [Act.put, List.setIfInBounds_toArray, List.set_cons_zero, List.set_cons_succ, i64_w, i32_w]
              rfl
            refine two_ (i := 3) (j := 7) (Ni := some 31) (Nj := some 35) #[true, true, true, true, true, true, true, false, false, false] #[true, true, true, false, true, true, true, true, false, false] rfl rfl rfl rfl (by kernel_rfl) (by decide) (by decide) (fun K hK => ?_) (fun K hK => ?_)
            · skip
              have cva := conv_at (g := w1.heap.size) (l := [107, ka]) hHeld z1 rfl (by first | rfl | simp)
              refine value_ (w1 := ?_) (v := ?_) (by rfl) rfl ?_ ?_
              rotate_left 2
              · go_simp
                constructor
                · rfl
                · rfl
              refine hK.out _ _ (hHeld) (fun hHeld => ?_)
              clear hK K
              refine norm_ (a' := ?_) ?_ ?_
              rotate_left
              · show Act.put _ (some 31) _ = _
                simp only [Act.put, List.setIfInBounds_toArray, List.set_cons_zero, List.set_cons_succ, i64_w, i32_w]
                rfl
              refine pure_ (i := 8) (N := some 9) (v := ?_) (a' := ?_) #[true, true, true, true, true, true, true, false, true, false] rfl rfl (by kernel_rfl) (fun _ _ _ h => h) (Or.inl ⟨by rfl, ?_⟩) ?_ ?_
              rotate_left
              · intro w'
                go_simp
                with_reducible rfl
              rotate_left
              · simp only [Act.put, List.setIfInBounds_toArray, List.set_cons_zero, List.set_cons_succ, i64_w, i32_w]
                rfl
              refine one_ (i := 7) (N := some 35) #[true, true, true, true, true, true, true, true, true, false] rfl rfl (by kernel_rfl) (by decide) (fun K hK => ?_)
              have cvb := conv_at (g := w1.heap.size + 1) (l := [107, kb]) hHeld z2 rfl (by first | rfl | simp)
              refine value_ (w1 := ?_) (v := ?_) (by rfl) rfl ?_ ?_
              rotate_left 2
              · go_simp
                constructor
                · rfl
                · rfl
              refine hK.out _ _ (hHeld) (fun hHeld => ?_)
              clear hK K
              refine norm_ (a' := ?_) ?_ ?_
              rotate_left
              · show Act.put _ (some 35) _ = _
                simp only [Act.put, List.setIfInBounds_toArray, List.set_cons_zero, List.set_cons_succ, i64_w, i32_w]
                rfl
              exact norm_ (by simp only [putAll, Act.put, List.setIfInBounds_toArray, List.set_cons_zero, List.set_cons_succ]) (hCont (w1.heap.size, w1.heap.size + 1) _ hHeld)
            · skip
              have cvb := conv_at (g := w1.heap.size + 1) (l := [107, kb]) hHeld z2 rfl (by first | rfl | simp)
              refine value_ (w1 := ?_) (v := ?_) (by rfl) rfl ?_ ?_
              rotate_left 2
              · go_simp
                constructor
                · rfl
                · rfl
              refine hK.out _ _ (hHeld) (fun hHeld => ?_)
              clear hK K
              refine norm_ (a' := ?_) ?_ ?_
              rotate_left
              · show Act.put _ (some 35) _ = _
                simp only [Act.put, List.setIfInBounds_toArray, List.set_cons_zero, List.set_cons_succ, i64_w, i32_w]
                rfl
              refine one_ (i := 3) (N := some 31) #[true, true, true, true, true, true, true, true, false, false] rfl rfl (by kernel_rfl) (by decide) (fun K hK => ?_)
              have cva := conv_at (g := w1.heap.size) (l := [107, ka]) hHeld z1 rfl (by first | rfl | simp)
              refine value_ (w1 := ?_) (v := ?_) (by rfl) rfl ?_ ?_
              rotate_left 2
              · go_simp
                constructor
                · rfl
                · rfl
              refine hK.out _ _ (hHeld) (fun hHeld => ?_)
              clear hK K
              refine norm_ (a' := ?_) ?_ ?_
              rotate_left
              · show Act.put _ (some 31) _ = _
                simp only [Act.put, List.setIfInBounds_toArray, List.set_cons_zero, List.set_cons_succ, i64_w, i32_w]
                rfl
              refine pure_ (i := 8) (N := some 9) (v := ?_) (a' := ?_) #[true, true, true, true, true, true, true, true, true, false] rfl rfl (by kernel_rfl) (fun _ _ _ h => h) (Or.inl ⟨by rfl, ?_⟩) ?_ ?_
              rotate_left
              · intro w'
                go_simp
                with_reducible rfl
              rotate_left
              · simp only [Act.put, List.setIfInBounds_toArray, List.set_cons_zero, List.set_cons_succ, i64_w, i32_w]
                rfl
              exact norm_ (by simp only [putAll, Act.put, List.setIfInBounds_toArray, List.set_cons_zero, List.set_cons_succ]) (hCont (w1.heap.size, w1.heap.size + 1) _ hHeld)
        · skip
          refine value_ (w1 := ?_) (v := ?_) (by rfl) rfl ?_ ?_
          rotate_left 2
          · go_simp
            constructor
            · rfl
            · rfl
          have z2 := (lit2 kb hHeld).1
          refine hK.out _ _ ((lit2 kb hHeld).2.1) (fun hHeld => ?_)
          clear hK K
          refine norm_ (a' := ?_) ?_ ?_
          rotate_left
          · show Act.put _ (some 34) _ = _
            simp only [Act.put, List.setIfInBounds_toArray, List.set_cons_zero, List.set_cons_succ, i64_w, i32_w]
            rfl
          refine two_ (i := 2) (j := 7) (Ni := some 30) (Nj := some 35) #[true, true, true, false, true, true, true, false, false, false] #[true, true, false, false, true, true, true, true, false, false] rfl rfl rfl rfl (by kernel_rfl) (by decide) (by decide) (fun K hK => ?_) (fun K hK => ?_)
          · skip
            refine value_ (w1 := ?_) (v := ?_) (by rfl) rfl ?_ ?_
            rotate_left 2
            · go_simp
              constructor
              · rfl
              · rfl
            have z1 := (lit2 ka hHeld).1
            replace z2 := z2.below (lit2 ka hHeld).2.2
            refine hK.out _ _ ((lit2 ka hHeld).2.1) (fun hHeld => ?_)
            clear hK K
            refine norm_ (a' := ?_) ?_ ?_
            rotate_left
            · show Act.put _ (some 30) _ = _
              simp only [Act.put, List.setIfInBounds_toArray, List.set_cons_zero, List.set_cons_succ, i64_w, i32_w]
              rfl
            refine two_ (i := 3) (j := 7) (Ni := some 31) (Nj := some 35) #[true, true, true, true, true, true, true, false, false, false] #[true, true, true, false, true, true, true, true, false, false] rfl rfl rfl rfl (by kernel_rfl) (by decide) (by decide) (fun K hK => ?_) (fun K hK => ?_)
            · skip
              have cva := conv_at (g := w1.heap.size + 1) (l := [107, ka]) hHeld z1 rfl (by first | rfl | simp)
              refine value_ (w1 := ?_) (v := ?_) (by rfl) rfl ?_ ?_
              rotate_left 2
              · go_simp
                constructor
                · rfl
                · rfl
              refine hK.out _ _ (hHeld) (fun hHeld => ?_)
              clear hK K
              refine norm_ (a' := ?_) ?_ ?_
              rotate_left
              · show Act.put _ (some 31) _ = _
                simp only [Act.put, List.setIfInBounds_toArray, List.set_cons_zero, List.set_cons_succ, i64_w, i32_w]
                rfl
              refine pure_ (i := 8) (N := some 9) (v := ?_) (a' := ?_) #[true, true, true, true, true, true, true, false, true, false] rfl rfl (by kernel_rfl) (fun _ _ _ h => h) (Or.inl ⟨by rfl, ?_⟩) ?_ ?_
              rotate_left
              · intro w'
                go_simp
                with_reducible rfl
              rotate_left
              · simp only [Act.put, List.setIfInBounds_toArray, List.set_cons_zero, List.set_cons_succ, i64_w, i32_w]
                rfl
              refine one_ (i := 7) (N := some 35) #[true, true, true, true, true, true, true, true, true, false] rfl rfl (by kernel_rfl) (by decide) (fun K hK => ?_)
              have cvb := conv_at (g := w1.heap.size) (l := [107, kb]) hHeld z2 rfl (by first | rfl | simp)
              refine value_ (w1 := ?_) (v := ?_) (by rfl) rfl ?_ ?_
              rotate_left 2
              · go_simp
                constructor
                · rfl
                · rfl
              refine hK.out _ _ (hHeld) (fun hHeld => ?_)
              clear hK K
              refine norm_ (a' := ?_) ?_ ?_
              rotate_left
              · show Act.put _ (some 35) _ = _
                simp only [Act.put, List.setIfInBounds_toArray, List.set_cons_zero, List.set_cons_succ, i64_w, i32_w]
                rfl
              exact norm_ (by simp only [putAll, Act.put, List.setIfInBounds_toArray, List.set_cons_zero, List.set_cons_succ]) (hCont (w1.heap.size + 1, w1.heap.size) _ hHeld)
            · skip
              have cvb := conv_at (g := w1.heap.size) (l := [107, kb]) hHeld z2 rfl (by first | rfl | simp)
              refine value_ (w1 := ?_) (v := ?_) (by rfl) rfl ?_ ?_
              rotate_left 2
              · go_simp
                constructor
                · rfl
                · rfl
              refine hK.out _ _ (hHeld) (fun hHeld => ?_)
              clear hK K
              refine norm_ (a' := ?_) ?_ ?_
              rotate_left
              · show Act.put _ (some 35) _ = _
                simp only [Act.put, List.setIfInBounds_toArray, List.set_cons_zero, List.set_cons_succ, i64_w, i32_w]
                rfl
              refine one_ (i := 3) (N := some 31) #[true, true, true, true, true, true, true, true, false, false] rfl rfl (by kernel_rfl) (by decide) (fun K hK => ?_)
              have cva := conv_at (g := w1.heap.size + 1) (l := [107, ka]) hHeld z1 rfl (by first | rfl | simp)
              refine value_ (w1 := ?_) (v := ?_) (by rfl) rfl ?_ ?_
              rotate_left 2
              · go_simp
                constructor
                · rfl
                · rfl
              refine hK.out _ _ (hHeld) (fun hHeld => ?_)
              clear hK K
              refine norm_ (a' := ?_) ?_ ?_
              rotate_left
              · show Act.put _ (some 31) _ = _
                simp only [Act.put, List.setIfInBounds_toArray, List.set_cons_zero, List.set_cons_succ, i64_w, i32_w]
                rfl
              refine pure_ (i := 8) (N := some 9) (v := ?_) (a' := ?_) #[true, true, true, true, true, true, true, true, true, false] rfl rfl (by kernel_rfl) (fun _ _ _ h => h) (Or.inl ⟨by rfl, ?_⟩) ?_ ?_
              rotate_left
              · intro w'
                go_simp
                with_reducible rfl
              rotate_left
              · simp only [Act.put, List.setIfInBounds_toArray, List.set_cons_zero, List.set_cons_succ, i64_w, i32_w]
                rfl
              exact norm_ (by simp only [putAll, Act.put, List.setIfInBounds_toArray, List.set_cons_zero, List.set_cons_succ]) (hCont (w1.heap.size + 1, w1.heap.size) _ hHeld)
          · skip
            have cvb := conv_at (g := w1.heap.size) (l := [107, kb]) hHeld z2 rfl (by first | rfl | simp)
            refine value_ (w1 := ?_) (v := ?_) (by rfl) rfl ?_ ?_
            rotate_left 2
            · go_simp
              constructor
              · rfl
              · rfl
            refine hK.out _ _ (hHeld) (fun hHeld => ?_)
            clear hK K
            refine norm_ (a' := ?_) ?_ ?_
            rotate_left
            · show Act.put _ (some 35) _ = _
              simp only [Act.put, List.setIfInBounds_toArray, List.set_cons_zero, List.set_cons_succ, i64_w, i32_w]
              rfl
            refine one_ (i := 2) (N := some 30) #[true, true, true, false, true, true, true, true, false, false] rfl rfl (by kernel_rfl) (by decide) (fun K hK => ?_)
            refine value_ (w1 := ?_) (v := ?_) (by rfl) rfl ?_ ?_
            rotate_left 2
            · go_simp
              constructor
              · rfl
              · rfl
            have z1 := (lit2 ka hHeld).1
            refine hK.out _ _ ((lit2 ka hHeld).2.1) (fun hHeld => ?_)
            clear hK K
            refine norm_ (a' := ?_) ?_ ?_
            rotate_left
            · show Act.put _ (some 30) _ = _
              simp only [Act.put, List.setIfInBounds_toArray, List.set_cons_zero, List.set_cons_succ, i64_w, i32_w]
              rfl
            refine one_ (i := 3) (N := some 31) #[true, true, true, true, true, true, true, true, false, false] rfl rfl (by kernel_rfl) (by decide) (fun K hK => ?_)
            have cva := conv_at (g := w1.heap.size + 1) (l := [107, ka]) hHeld z1 rfl (by first | rfl | simp)
            refine value_ (w1 := ?_) (v := ?_) (by rfl) rfl ?_ ?_
            rotate_left 2
            · go_simp
              constructor
              · rfl
              · rfl
            refine hK.out _ _ (hHeld) (fun hHeld => ?_)
            clear hK K
            refine norm_ (a' := ?_) ?_ ?_
            rotate_left
            · show Act.put _ (some 31) _ = _
              simp only [Act.put, List.setIfInBounds_toArray, List.set_cons_zero, List.set_cons_succ, i64_w, i32_w]
              rfl
            refine pure_ (i := 8) (N := some 9) (v := ?_) (a' := ?_) #[true, true, true, true, true, true, true, true, true, false] rfl rfl (by kernel_rfl) (fun _ _ _ h => h) (Or.inl ⟨by rfl, ?_⟩) ?_ ?_
            rotate_left
            · intro w'
              go_simp
              with_reducible rfl
            rotate_left
            · simp only [Act.put, List.setIfInBounds_toArray, List.set_cons_zero, List.set_cons_succ, i64_w, i32_w]
              rfl
            exact norm_ (by simp only [putAll, Act.put, List.setIfInBounds_toArray, List.set_cons_zero, List.set_cons_succ]) (hCont (w1.heap.size + 1, w1.heap.size) _ hHeld)
      rintro ⟨g1, g2⟩ w4 hHeld
      refine norm_ (a' := ?_) ?_ ?_
      rotate_left
      · simp only [putAll, Act.put, List.setIfInBounds_toArray, List.set_cons_zero, List.set_cons_succ]
        rfl
      refine pure_ (i := 9) (N := some 10) (v := ?_) (a' := ?_) #[true, true, true, true, true, true, true, true, true, true] rfl rfl (by kernel_rfl) (fun _ _ _ h => h) (Or.inl ⟨by rfl, ?_⟩) ?_ ?_
      rotate_left
      · intro w'
        go_simp
        with_reducible rfl
      rotate_left
      · simp only [Act.put, List.setIfInBounds_toArray, List.set_cons_zero, List.set_cons_succ, i64_w, i32_w]
        rfl
      refine done_ (by kernel_rfl) ?_
      replace TT := hid (TT.out.below hHeld)
      replace AA := hid (AA.out.below hHeld)
      replace SB := hid (SB.out.below hHeld)
      replace BB := hid (below_then BB.out hHeld)
      clear hHeld e1 e2
      obtain ⟨k1, hk1⟩ : ∃ k, k = strB [107, ka] := ⟨_, rfl⟩
      obtain ⟨k2, hk2⟩ : ∃ k, k = strB [107, kb] := ⟨_, rfl⟩
      have KBk1 := hid (show k1.size ≤ 60000 by rw [hk1, strB_size]; simp)
      have KBk2 := hid (show k2.size ≤ 60000 by rw [hk2, strB_size]; simp)
      rw [← hk1, ← hk2]
      clear hk1 hk2
      have HC2 := hid (shown_any (key := k1) TT.out HN.out AA.out HC.out.1 SM.out KBk1.out SL.out SB.out (by omega))
      go_wp2_with fail
      refine HC2.out.mono ?_
      rintro e w5 ⟨d, RA, rm, rc, PA, n0, pk, ok, ll, row, rfl, SH, b5⟩
      clear HC2
      replace TT := hid (TT.out.below b5)
      replace AA := hid (AA.out.below b5)
      replace SB := hid (SB.out.below b5)
      replace BB := hid (below_then BB.out b5)
      clear b5
      clear AA SB
      obtain ⟨P, hP⟩ : ∃ P, P = layB (dig seed) (dig (seed ++ [1])) (buildT (treeF 256 ll) k1) := ⟨_, rfl⟩
      have NB := hid (show n0 ≤ 1000000 by rw [← SH.out.2.2.2.2.2.1]; have := (lay_length (dig_size seed) (dig_size (seed ++ [1])) (built_fits SH.out.1 k1)).1; omega)
      have ACC := hid (SH.out.acc)
      have PL := hid SH.out.2.2.2.2.2.1
      have PB := hid SH.out.2.2.2.2.2.2.1
      rw [← hP] at ACC PL PB
      have RL := hid SH.out.2.1
      have RB := hid SH.out.2.2.1
      have HP := hid hP
      clear hP
      clear SH
      obtain ⟨aca, hac⟩ : ∃ ac, ac = acceptB d k2 row ok P := ⟨_, rfl⟩
      have HAa := hid hac
      have tta : (aca == aca) = true := beq_self_eq_true _
      clear hac
      have S0 := check_acc (digest := d) (key := k2) (row := row) (there := ok) TT.out PL.out PB.out NB.out KBk2.out RL.out RB.out
      rw [← HAa.out] at S0
      have S1 := hid S0
      clear S0
      go_wp2_with fail
      refine S1.out.mono ?_
      rintro e w6a ⟨rfl, b6⟩
      clear S1
      replace TT := hid (TT.out.below b6)
      replace PB := hid (PB.out.below b6)
      replace RB := hid (RB.out.below b6)
      replace BB := hid (below_then BB.out b6)
      clear b6
      have S0 := rcheck_acc (digest := d) (key := k2) (row := row) (there := ok) PL.out PB.out NB.out KBk2.out RL.out RB.out
      rw [← HAa.out] at S0
      have S1 := hid S0
      clear S0
      go_wp2_with fail
      refine S1.out.mono ?_
      rintro e w7a ⟨rfl, b7⟩
      clear S1
      replace TT := hid (TT.out.below b7)
      replace PB := hid (PB.out.below b7)
      replace RB := hid (RB.out.below b7)
      replace BB := hid (below_then BB.out b7)
      clear b7
      obtain ⟨acb, hac⟩ : ∃ ac, ac = acceptB d k2 [] false P := ⟨_, rfl⟩
      have HAb := hid hac
      have ttb : (acb == acb) = true := beq_self_eq_true _
      clear hac
      have S0 := check_acc (digest := d) (key := k2) (row := []) (there := false) TT.out PL.out PB.out NB.out KBk2.out rfl (BSA.nil _)
      rw [← HAb.out] at S0
      have S1 := hid S0
      clear S0
      go_wp2_with fail
      refine S1.out.mono ?_
      rintro e w6b ⟨rfl, b6⟩
      clear S1
      replace TT := hid (TT.out.below b6)
      replace PB := hid (PB.out.below b6)
      replace RB := hid (RB.out.below b6)
      replace BB := hid (below_then BB.out b6)
      clear b6
      have S0 := rcheck_acc (digest := d) (key := k2) (row := []) (there := false) PL.out PB.out NB.out KBk2.out rfl (BSA.nil _)
      rw [← HAb.out] at S0
      have S1 := hid S0
      clear S0
      go_wp2_with fail
      refine S1.out.mono ?_
      rintro e w7b ⟨rfl, b7⟩
      clear S1
      replace TT := hid (TT.out.below b7)
      replace PB := hid (PB.out.below b7)
      replace RB := hid (RB.out.below b7)
      replace BB := hid (below_then BB.out b7)
      clear b7
      have HC3 := hid (vsteps_any (key := k2) TT.out PL.out PB.out NB.out KBk2.out)
      go_wp2_with fail
      refine HC3.out.mono ?_
      rintro e w9 ⟨rfl, b9⟩
      clear HC3
      replace TT := hid (TT.out.below b9)
      replace PB := hid (PB.out.below b9)
      replace RB := hid (RB.out.below b9)
      replace BB := hid (below_then BB.out b9)
      clear b9
      go_wp2
      go_ret
      exact ⟨rfl, BB.out⟩
  · have hd : decide (SmallL l) = false := by simp [hsm]
    have HD := hid hd
    clear hsm hd
    go_enter Tryd.func8, Tryd.ntmps8
    have HC1 := hid (vlink_any TT.out)
    go_wp2_with fail
    refine HC1.out.mono ?_
    rintro e w1 ⟨rfl, b1⟩
    clear HC1
    replace TT := hid (TT.out.below b1)
    replace AA := hid (AA.out.below b1)
    replace SB := hid (SB.out.below b1)
    replace BB := hid (below_then BB.out b1)
    clear b1
    have S0 := small_any HN.out AA.out HC.out.1 HC.out.2
    rw [HD.out] at S0
    have S1 := hid S0
    clear S0
    go_wp2_with fail
    refine S1.out.mono ?_
    rintro e w2 ⟨rfl, rfl⟩
    clear S1
    have HC2 := hid (vlink_any TT.out)
    go_wp2_with fail
    refine HC2.out.mono ?_
    rintro e w3 ⟨rfl, b3⟩
    clear HC2
    replace TT := hid (TT.out.below b3)
    replace AA := hid (AA.out.below b3)
    replace SB := hid (SB.out.below b3)
    replace BB := hid (below_then BB.out b3)
    clear b3
    go_wp2
    go_ret
    exact ⟨rfl, BB.out⟩
end Go.Proofs.YtcfjciencggflaaDoor
