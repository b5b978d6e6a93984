/- MarkLinks: a chain of links: each hangs on all that stand ahead of it. -/
import Derived.Test.YthnkndeljlphjaaDoorLong
import Derived.Test.YthnkndeljlphjaaDoorParts
set_option linter.unusedVariables false
set_option linter.unusedSimpArgs false
namespace Go.Proofs.YthnkndeljlphjaaDoor
open Go.RowKit Go.ChangeShapes Go.WideShapes Go.Deep PrintLast

set_option maxRecDepth 100000 in
set_option maxHeartbeats 6400000 in
theorem links_walk {w : World} (hT : Table w) {A : Option Addr} {cap : Nat} {ps : List Part} (hp : ps.length ≤ cap ∧ cap ≤ maxLen ∧ PartsAt w A ps) :
    Calls Tryd.prog 7 #[.slice A ps.length cap] w fun e w' => e = .returned (.bool true) ∧ Below w.heap.size w w' := by
  obtain ⟨_, _, hPA⟩ := hp
  by_cases h0 : 20 < ps.length
  · have t0 : decide ((20 : Int) < (ps.length : Int)) = true := by simp; omega
    have H := hid (long_any hT)
    go_enter Tryd.func7, Tryd.ntmps7
    go_wp2_with fail
    refine H.out.mono ?_
    rintro e w1 ⟨rfl, b1⟩
    go_wp2
    go_ret
    exact ⟨rfl, b1⟩
  · have t0 : decide ((20 : Int) < (ps.length : Int)) = false := by simp; omega
    obtain ⟨n, hn⟩ : ∃ n, n = ps.length := ⟨_, rfl⟩
    have hn20 : n ≤ 20 := by omega
    rw [← hn] at t0 ⊢
    have HN := hid hn
    have HP := hid hPA
    have hTH := hid hT
    have H := hid (empty_any hT)
    clear hn hPA hT h0
    go_enter Tryd.func7, Tryd.ntmps7
    go_wp2_with fail
    refine H.out.mono ?_
    rintro e w1 ⟨rfl, b1⟩
    have H := hid (rempty_any (w := w1))
    go_wp2_with fail
    refine H.out.mono ?_
    rintro e w2 ⟨rfl, b2⟩
    have B2 := below_then b1 b2
    have P2 : ∃ s : ByteArray, Value.string (dig [0]) = .string s ∧ Value.string (dig [0]) = .string s ∧ Hid (s.size = 32) := ⟨_, rfl, rfl, hid (dig_size _)⟩
    clear H b1 b2
    go_wp2
    go_loopw [3, 4, 5] (fun a b i wr => ∃ k : Nat, k ≤ n ∧ i = .int .i64 k ∧ (∃ s : ByteArray, a = .string s ∧ b = .string s ∧ Hid (s.size = 32)) ∧ Below w.heap.size w wr) (fun _ _ i _ => n - (intOf i).toNat)
    case atStart => exact ⟨0, Nat.zero_le _, rfl, P2, B2⟩
    case round =>
      clear P2 B2
      obtain ⟨k, hk, rfl, ⟨s, rfl, rfl, hs⟩, hB⟩ := hrel
      by_cases hlt : k < n
      · have t1 : decide ((k : Int) < (n : Int)) = true := by simp; omega
        obtain ⟨g, o, rfl, ck, pk⟩ := HP.out.at_ k (by rw [← HN.out]; exact hlt)
        replace ck := below_cell hB ck
        replace pk := pk.below hB
        unfold partV at ck
        obtain ⟨⟨Ax, cx, x⟩, hx⟩ : ∃ x : Part, x = ps[k]'(by rw [← HN.out]; exact hlt) := ⟨_, rfl⟩
        rw [← hx] at ck pk
        clear hx
        by_cases hl : 60 < x.length
        · have t2 : decide ((60 : Int) < (x.length : Int)) = true := by simp; omega
          have H := hid (long_any (hTH.out.below hB))
          go_wp2_with fail
          refine H.out.mono ?_
          rintro e w5 ⟨rfl, b5⟩
          go_wp2
          go_ret
          exact ⟨rfl, below_then hB b5⟩
        · have t2 : decide ((60 : Int) < (x.length : Int)) = false := by simp; omega
          have hTb := hTH.out.below hB
          have hx0 : x.length ≤ 1000000 := by omega
          have hs0 : s.size ≤ 1000000 := by rw [hs.out]; omega
          obtain ⟨D1, hD1⟩ : ∃ D, Hid (D = dig (leafB (⟨#[107]⟩ : ByteArray).data.toList x)) := ⟨_, hid rfl⟩
          obtain ⟨D2, hD2⟩ : ∃ D, Hid (D = dig (linkB s.data.toList D1.data.toList (sum256 x))) := ⟨_, hid rfl⟩
          have d1 : D1.size ≤ 1000000 := by rw [hD1.out, dig_size]; omega
          have d2 : D2.size = 32 := by rw [hD2.out]; exact dig_size _
          have HD := hid d2
          have F1 : ∀ w : World, Table w → BSA w Ax cx x → Calls Tryd.prog 13 #[.string ⟨#[107]⟩, .slice Ax x.length cx] w fun e w' => e = .returned (.string D1) ∧ Below w.heap.size w w' := fun w h1 h2 => by rw [hD1.out]; exact leaf_any h1 (by decide) hx0 h2
          have F2 : ∀ w : World, Table w → BSA w Ax cx x → Calls Tryd.prog 20 #[.string s, .string D1, .slice Ax x.length cx] w fun e w' => e = .returned (.string D2) ∧ Below w.heap.size w w' := fun w h1 h2 => by rw [hD2.out]; exact link_any h1 hs0 d1 hx0 h2
          have F3 : ∀ w : World, BSA w Ax cx x → Calls Tryd.prog 12 #[.string ⟨#[107]⟩, .slice Ax x.length cx] w (Gave w (leafB (⟨#[107]⟩ : ByteArray).data.toList x)) := fun w h2 => rleafBytes_any (by decide) hx0 h2
          have F4 : ∀ w : World, BSA w Ax cx x → Calls Tryd.prog 21 #[.string s, .string D1, .slice Ax x.length cx] w fun e w' => e = .returned (.string D2) ∧ Below w.heap.size w w' := fun w h2 => by rw [hD2.out]; exact rlink_any hs0 d1 hx0 h2
          obtain ⟨Z, hZ⟩ : ∃ Z, Hid (Z = leafB (⟨#[107]⟩ : ByteArray).data.toList x) := ⟨_, hid rfl⟩
          rw [← hZ.out] at F3
          have hZb : Z.length ≤ 1000000000000 := by rw [hZ.out, leafB_length]; simp; omega
          have F5 : ∀ (w : World) (A : Option Addr) (c : Nat), BSA w A c Z → Calls Tryd.prog 14 #[.slice A Z.length c] w fun e w' => e = .returned (.string D1) ∧ Below w.heap.size w w' := fun w A c h => by rw [hD1.out, ← hZ.out]; exact rsum_dig rfl h hZb
          have E1 := same_str D2
          have d2' : (D2.size : Int) = 32 := by omega
          have pk1 : ((k : Int) < (n : Int)) = True := eq_true (Int.ofNat_lt.2 hlt)
          clear d1 d2 hs0 hx0
          go_wp2
          refine start_ (n := 12) (S := fun w' => w'.cell? ⟨g, o + k, none⟩ = some (.slice Ax x.length cx) ∧ BSA w' Ax cx x ∧ Table w' ∧ Below w.heap.size w w') (ds := []) #[false, false, false, false, false, false, false, false, false, false, false, false] (by kernel_rfl) rfl rfl ⟨ck, pk, hTb, hB.drew⟩ (fun hHeld => ?_)
          refine pure_ (i := 0) (N := some 25) (v := ?_) (a' := ?_) #[true, false, false, false, false, false, false, false, false, false, false, false] rfl rfl (by kernel_rfl) (fun _ _ _ h => h) (Or.inl ⟨by rfl, ?_⟩) ?_ ?_
          rotate_left
          · intro w'
            go_simp
            with_reducible rfl
          rotate_left
          · simp only [Act.put, List.setIfInBounds_toArray, List.set_cons_zero, List.set_cons_succ, i64_w, i32_w]
            rfl
          refine pure_ (i := 1) (N := some 26) (v := ?_) (a' := ?_) #[true, true, false, false, false, false, false, false, false, false, false, false] rfl rfl (by kernel_rfl) (fun _ _ _ h => h) (Or.inl ⟨by rfl, ?_⟩) ?_ ?_
          rotate_left
          · intro w'
            go_simp
            with_reducible rfl
          rotate_left
          · simp only [Act.put, List.setIfInBounds_toArray, List.set_cons_zero, List.set_cons_succ, i64_w, i32_w]
            rfl
          refine pure_ (i := 2) (N := some 27) (v := ?_) (a' := ?_) #[true, true, true, false, false, false, false, false, false, false, false, false] rfl rfl (by kernel_rfl) (fun _ _ _ h => h) (Or.inl ⟨by rfl, ?_⟩) ?_ ?_
          rotate_left
          · intro w'
            go_simp
            with_reducible rfl
          rotate_left
          · simp only [Act.put, List.setIfInBounds_toArray, List.set_cons_zero, List.set_cons_succ, i64_w, i32_w]
            rfl
          refine pure_ (i := 3) (N := some 28) (v := ?_) (a' := ?_) #[true, true, true, true, false, false, false, false, false, false, false, false] rfl rfl (by kernel_rfl) (fun _ _ _ h => h) (Or.inl ⟨by rfl, ?_⟩) ?_ ?_
          rotate_left
          · intro w'
            go_simp
            with_reducible rfl
          rotate_left
          · simp only [Act.put, List.setIfInBounds_toArray, List.set_cons_zero, List.set_cons_succ, i64_w, i32_w]
            rfl
          refine pure_ (i := 6) (N := some 31) (v := ?_) (a' := ?_) #[true, true, true, true, false, false, true, false, false, false, false, false] rfl rfl (by kernel_rfl) (fun _ _ _ h => h) (Or.inl ⟨by rfl, ?_⟩) ?_ ?_
          rotate_left
          · intro w'
            go_simp
            with_reducible rfl
          rotate_left
          · simp only [Act.put, List.setIfInBounds_toArray, List.set_cons_zero, List.set_cons_succ, i64_w, i32_w]
            rfl
          refine pure_ (i := 7) (N := some 32) (v := ?_) (a' := ?_) #[true, true, true, true, false, false, true, true, false, false, false, false] rfl rfl (by kernel_rfl) (fun _ _ _ h => h) (Or.inl ⟨by rfl, ?_⟩) ?_ ?_
          rotate_left
          · intro w'
            go_simp
            with_reducible rfl
          rotate_left
          · simp only [Act.put, List.setIfInBounds_toArray, List.set_cons_zero, List.set_cons_succ, i64_w, i32_w]
            rfl
          refine pure_ (i := 8) (N := some 33) (v := ?_) (a' := ?_) #[true, true, true, true, false, false, true, true, true, false, false, false] rfl rfl (by kernel_rfl) (fun _ _ _ h => h) (Or.inl ⟨by rfl, ?_⟩) ?_ ?_
          rotate_left
          · intro w'
            go_simp
            with_reducible rfl
          rotate_left
          · simp only [Act.put, List.setIfInBounds_toArray, List.set_cons_zero, List.set_cons_succ, i64_w, i32_w]
            rfl
          refine take_ (i := 4) (N := some 29) (v := ?_) (a' := ?_) #[true, true, true, true, true, false, true, true, true, false, false, false] rfl rfl (by kernel_rfl) (fun _ _ _ h => h) (Or.inl ⟨by rfl, ?_⟩) hHeld ?_ ?_
          rotate_left
          · rintro w' ⟨s0, s1, s2, s3⟩
            go_simp
            with_reducible rfl
          rotate_left
          · simp only [Act.put, List.setIfInBounds_toArray, List.set_cons_zero, List.set_cons_succ, i64_w, i32_w]
            rfl
          refine take_ (i := 9) (N := some 34) (v := ?_) (a' := ?_) #[true, true, true, true, true, false, true, true, true, true, false, false] rfl rfl (by kernel_rfl) (fun _ _ _ h => h) (Or.inl ⟨by rfl, ?_⟩) hHeld ?_ ?_
          rotate_left
          · rintro w' ⟨s0, s1, s2, s3⟩
            go_simp
            with_reducible rfl
          rotate_left
          · simp only [Act.put, List.setIfInBounds_toArray, List.set_cons_zero, List.set_cons_succ, i64_w, i32_w]
            rfl
          refine one_ (i := 5) (N := some 30) #[true, true, true, true, true, true, true, true, true, true, false, false] rfl rfl (by kernel_rfl) (by decide) (fun K hK => ?_)
          refine goes_ Tryd.func13 (by kernel_rfl) rfl #[.string ⟨#[107]⟩, .slice Ax x.length cx] (by rfl) rfl rfl (by simp only [List.map_toArray, List.map_cons, List.map_nil]; rfl) ?_
          with_reducible refine ((F1 _ hHeld.2.2.1 hHeld.2.1)).mono ?_
          rintro e' wa ⟨rfl, qa⟩
          refine ⟨_, rfl, ?_⟩
          refine hK.out _ _ ⟨(below_cell qa hHeld.1), (hHeld.2.1.below qa), (hHeld.2.2.1.below qa), (below_then hHeld.2.2.2 qa)⟩ (fun hHeld => ?_)
          clear hK K
          refine norm_ (a' := ?_) ?_ ?_
          rotate_left
          · show Act.put _ (some 30) _ = _
            simp only [Act.put, List.setIfInBounds_toArray, List.set_cons_zero, List.set_cons_succ, i64_w, i32_w]
            rfl
          refine one_ (i := 10) (N := some 35) #[true, true, true, true, true, true, true, true, true, true, true, false] rfl rfl (by kernel_rfl) (by decide) (fun K hK => ?_)
          refine goes_ Tryd.func20 (by kernel_rfl) rfl #[.string s, .string D1, .slice Ax x.length cx] (by rfl) rfl rfl (by simp only [List.map_toArray, List.map_cons, List.map_nil]; rfl) ?_
          with_reducible refine ((F2 _ hHeld.2.2.1 hHeld.2.1)).mono ?_
          rintro e' wb ⟨rfl, qb⟩
          refine ⟨_, rfl, ?_⟩
          obtain ⟨c1, p1, T1, B1⟩ := hHeld
          replace c1 := below_cell qb c1
          replace p1 := p1.below qb
          replace T1 := T1.below qb
          replace B1 := below_then B1 qb
          refine hK.out _ _ ⟨c1, p1, T1, B1⟩ (fun hHeld => ?_)
          clear hK K
          refine norm_ (a' := ?_) ?_ ?_
          rotate_left
          · show Act.put _ (some 35) _ = _
            simp only [Act.put, List.setIfInBounds_toArray, List.set_cons_zero, List.set_cons_succ, i64_w, i32_w]
            rfl
          refine pure_ (i := 11) (N := some 3) (v := ?_) (a' := ?_) #[true, true, true, true, true, true, true, true, true, true, true, true] rfl rfl (by kernel_rfl) (fun _ _ _ h => h) (Or.inl ⟨by rfl, ?_⟩) ?_ ?_
          rotate_left
          · intro w'
            go_simp
            with_reducible rfl
          rotate_left
          · simp only [Act.put, List.setIfInBounds_toArray, List.set_cons_zero, List.set_cons_succ, i64_w, i32_w]
            rfl
          refine done_ (by kernel_rfl) ?_
          clear F1 F2 ck pk hTb hB qa
          go_wp2
          refine start_ (n := 13) (S := fun w' => w'.cell? ⟨g, o + k, none⟩ = some (.slice Ax x.length cx) ∧ BSA w' Ax cx x ∧ Table w' ∧ Below w.heap.size w w') (ds := []) #[false, false, false, false, false, false, false, false, false, false, false, false, false] (by kernel_rfl) rfl rfl ⟨c1, p1, T1, B1.drew⟩ (fun hHeld => ?_)
          refine pure_ (i := 0) (N := some 36) (v := ?_) (a' := ?_) #[true, false, false, false, false, false, false, false, false, false, false, false, false] rfl rfl (by kernel_rfl) (fun _ _ _ h => h) (Or.inl ⟨by rfl, ?_⟩) ?_ ?_
          rotate_left
          · intro w'
            go_simp
            with_reducible rfl
          rotate_left
          · simp only [Act.put, List.setIfInBounds_toArray, List.set_cons_zero, List.set_cons_succ, i64_w, i32_w]
            rfl
          refine pure_ (i := 1) (N := some 37) (v := ?_) (a' := ?_) #[true, true, false, false, false, false, false, false, false, false, false, false, false] rfl rfl (by kernel_rfl) (fun _ _ _ h => h) (Or.inl ⟨by rfl, ?_⟩) ?_ ?_
          rotate_left
          · intro w'
            go_simp
            with_reducible rfl
          rotate_left
          · simp only [Act.put, List.setIfInBounds_toArray, List.set_cons_zero, List.set_cons_succ, i64_w, i32_w]
            rfl
          refine pure_ (i := 2) (N := some 38) (v := ?_) (a' := ?_) #[true, true, true, false, false, false, false, false, false, false, false, false, false] rfl rfl (by kernel_rfl) (fun _ _ _ h => h) (Or.inl ⟨by rfl, ?_⟩) ?_ ?_
          rotate_left
          · intro w'
            go_simp
            with_reducible rfl
          rotate_left
          · simp only [Act.put, List.setIfInBounds_toArray, List.set_cons_zero, List.set_cons_succ, i64_w, i32_w]
            rfl
          refine pure_ (i := 3) (N := some 39) (v := ?_) (a' := ?_) #[true, true, true, true, false, false, false, false, false, false, false, false, false] rfl rfl (by kernel_rfl) (fun _ _ _ h => h) (Or.inl ⟨by rfl, ?_⟩) ?_ ?_
          rotate_left
          · intro w'
            go_simp
            with_reducible rfl
          rotate_left
          · simp only [Act.put, List.setIfInBounds_toArray, List.set_cons_zero, List.set_cons_succ, i64_w, i32_w]
            rfl
          refine pure_ (i := 7) (N := some 43) (v := ?_) (a' := ?_) #[true, true, true, true, false, false, false, true, false, false, false, false, false] rfl rfl (by kernel_rfl) (fun _ _ _ h => h) (Or.inl ⟨by rfl, ?_⟩) ?_ ?_
          rotate_left
          · intro w'
            go_simp
            with_reducible rfl
          rotate_left
          · simp only [Act.put, List.setIfInBounds_toArray, List.set_cons_zero, List.set_cons_succ, i64_w, i32_w]
            rfl
          refine pure_ (i := 8) (N := some 44) (v := ?_) (a' := ?_) #[true, true, true, true, false, false, false, true, true, false, false, false, false] rfl rfl (by kernel_rfl) (fun _ _ _ h => h) (Or.inl ⟨by rfl, ?_⟩) ?_ ?_
          rotate_left
          · intro w'
            go_simp
            with_reducible rfl
          rotate_left
          · simp only [Act.put, List.setIfInBounds_toArray, List.set_cons_zero, List.set_cons_succ, i64_w, i32_w]
            rfl
          refine pure_ (i := 9) (N := some 45) (v := ?_) (a' := ?_) #[true, true, true, true, false, false, false, true, true, true, false, false, false] rfl rfl (by kernel_rfl) (fun _ _ _ h => h) (Or.inl ⟨by rfl, ?_⟩) ?_ ?_
          rotate_left
          · intro w'
            go_simp
            with_reducible rfl
          rotate_left
          · simp only [Act.put, List.setIfInBounds_toArray, List.set_cons_zero, List.set_cons_succ, i64_w, i32_w]
            rfl
          refine take_ (i := 4) (N := some 40) (v := ?_) (a' := ?_) #[true, true, true, true, true, false, false, true, true, true, false, false, false] rfl rfl (by kernel_rfl) (fun _ _ _ h => h) (Or.inl ⟨by rfl, ?_⟩) hHeld ?_ ?_
          rotate_left
          · rintro w' ⟨s0, s1, s2, s3⟩
            go_simp
            with_reducible rfl
          rotate_left
          · simp only [Act.put, List.setIfInBounds_toArray, List.set_cons_zero, List.set_cons_succ, i64_w, i32_w]
            rfl
          refine take_ (i := 10) (N := some 46) (v := ?_) (a' := ?_) #[true, true, true, true, true, false, false, true, true, true, true, false, false] rfl rfl (by kernel_rfl) (fun _ _ _ h => h) (Or.inl ⟨by rfl, ?_⟩) hHeld ?_ ?_
          rotate_left
          · rintro w' ⟨s0, s1, s2, s3⟩
            go_simp
            with_reducible rfl
          rotate_left
          · simp only [Act.put, List.setIfInBounds_toArray, List.set_cons_zero, List.set_cons_succ, i64_w, i32_w]
            rfl
          refine one_ (i := 5) (N := some 41) #[true, true, true, true, true, true, false, true, true, true, true, false, false] rfl rfl (by kernel_rfl) (by decide) (fun K hK => ?_)
          refine goes_ Tryd.func12 (by kernel_rfl) rfl #[.string ⟨#[107]⟩, .slice Ax x.length cx] (by rfl) rfl rfl (by simp only [List.map_toArray, List.map_cons, List.map_nil]; rfl) ?_
          with_reducible refine ((F3 _ hHeld.2.1)).mono ?_
          rintro e' wc ⟨Az, cz, rfl, rz, qc⟩
          refine ⟨_, rfl, ?_⟩
          refine hK.out _ _ ⟨(below_cell qc hHeld.1), (hHeld.2.1.below qc), (hHeld.2.2.1.below qc), (below_then hHeld.2.2.2 qc)⟩ (fun hHeld => ?_)
          clear hK K
          refine norm_ (a' := ?_) ?_ ?_
          rotate_left
          · show Act.put _ (some 41) _ = _
            simp only [Act.put, List.setIfInBounds_toArray, List.set_cons_zero, List.set_cons_succ, i64_w, i32_w]
            rfl
          refine one_ (i := 6) (N := some 42) #[true, true, true, true, true, true, true, true, true, true, true, false, false] rfl rfl (by kernel_rfl) (by decide) (fun K hK => ?_)
          refine goes_ Tryd.func14 (by kernel_rfl) rfl #[.slice Az Z.length cz] (by rfl) rfl rfl (by simp only [List.map_toArray, List.map_cons, List.map_nil]; rfl) ?_
          with_reducible refine ((F5 _ _ _ rz.bsa)).mono ?_
          rintro e' wd ⟨rfl, qd⟩
          refine ⟨_, rfl, ?_⟩
          refine hK.out _ _ ⟨(below_cell qd hHeld.1), (hHeld.2.1.below qd), (hHeld.2.2.1.below qd), (below_then hHeld.2.2.2 qd)⟩ (fun hHeld => ?_)
          clear hK K
          refine norm_ (a' := ?_) ?_ ?_
          rotate_left
          · show Act.put _ (some 42) _ = _
            simp only [Act.put, List.setIfInBounds_toArray, List.set_cons_zero, List.set_cons_succ, i64_w, i32_w]
            rfl
          refine one_ (i := 11) (N := some 47) #[true, true, true, true, true, true, true, true, true, true, true, true, false] rfl rfl (by kernel_rfl) (by decide) (fun K hK => ?_)
          refine goes_ Tryd.func21 (by kernel_rfl) rfl #[.string s, .string D1, .slice Ax x.length cx] (by rfl) rfl rfl (by simp only [List.map_toArray, List.map_cons, List.map_nil]; rfl) ?_
          with_reducible refine ((F4 _ hHeld.2.1)).mono ?_
          rintro e' we ⟨rfl, qe⟩
          refine ⟨_, rfl, ?_⟩
          have B2 := below_then hHeld.2.2.2 qe
          refine hK.out _ _ ⟨(below_cell qe hHeld.1), (hHeld.2.1.below qe), (hHeld.2.2.1.below qe), B2⟩ (fun hHeld => ?_)
          clear hK K
          refine norm_ (a' := ?_) ?_ ?_
          rotate_left
          · show Act.put _ (some 47) _ = _
            simp only [Act.put, List.setIfInBounds_toArray, List.set_cons_zero, List.set_cons_succ, i64_w, i32_w]
            rfl
          refine pure_ (i := 12) (N := some 4) (v := ?_) (a' := ?_) #[true, true, true, true, true, true, true, true, true, true, true, true, true] rfl rfl (by kernel_rfl) (fun _ _ _ h => h) (Or.inl ⟨by rfl, ?_⟩) ?_ ?_
          rotate_left
          · intro w'
            go_simp
            with_reducible rfl
          rotate_left
          · simp only [Act.put, List.setIfInBounds_toArray, List.set_cons_zero, List.set_cons_succ, i64_w, i32_w]
            rfl
          refine done_ (by kernel_rfl) ?_
          clear F3 F4 F5 c1 p1 T1 B1 qb rz pk1
          go_wp2
          go_roundw
          case rel => exact ⟨k + 1, hlt, by go_num, ⟨D2, rfl, rfl, HD⟩, B2⟩
          case measure => simp [intOf]; omega
      · have t1 : decide ((k : Int) < (n : Int)) = false := by simp; omega
        have H := hid (long_any (hTH.out.below hB))
        go_wp2_with fail
        refine H.out.mono ?_
        rintro e w5 ⟨rfl, b5⟩
        go_wp2
        go_ret
        exact ⟨rfl, below_then hB b5⟩
end Go.Proofs.YthnkndeljlphjaaDoor
