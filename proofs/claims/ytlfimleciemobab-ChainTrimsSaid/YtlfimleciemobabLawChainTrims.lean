/- ChainTrims: what is let go nobody sees who asks for that number, or above. -/
import Derived.Test.YtlfimleciemobabChainP
import Derived.Test.YtlfimleciemobabChainTwo
import Derived.Test.YtlfimleciemobabActs12
import Derived.Test.YtlfimleciemobabInts
import Derived.Deep.DeepCutAuto
import Derived.Deep.CutBlock
set_option linter.unusedVariables false
set_option linter.unusedSimpArgs false
namespace Go.Proofs.Ytlfimleciemobab
open Go.RowKit PrintLast

theorem tmod_100 (z : Int) : -99 ≤ z.tmod 100 ∧ z.tmod 100 ≤ 99 := by
  rcases Int.le_total 0 z with h | h
  · rw [Int.tmod_eq_emod_of_nonneg h]; omega
  · have e : z.tmod 100 = -((-z).tmod 100) := by rw [Int.neg_tmod]; omega
    rw [e, Int.tmod_eq_emod_of_nonneg (by omega)]; omega

set_option maxRecDepth 100000 in
set_option maxHeartbeats 3200000 in
theorem trims_walk {w : World} {A A' : Option Addr} {cap c' : Nat} {l : List DAct} {below : Int} {ask : List Int} (h0 : l.length ≤ cap ∧ cap ≤ maxLen ∧ ActsAt w A l) (_hbw : (Lit.int .i64 below).wf = true)
    (hask : ISA w A' c' ask ∧ ∀ z ∈ ask, -9223372036854775808 ≤ z ∧ z ≤ 9223372036854775807) :
    Calls Try.prog 6 #[.slice A l.length cap, .int .i64 below, .slice A' ask.length c'] w fun e w' => e = .returned (.bool true) ∧ Below w.heap.size w w' := by
  obtain ⟨hl, hm, h⟩ := h0
  obtain ⟨hi, hz⟩ := hask
  have hz' := hid hz
  unfold maxLen at hm
  have hal := hi.le
  clear hz _hbw
  by_cases h1 : 40 < l.length
  · have t1 : decide ((40 : Int) < (l.length : Int)) = true := by simp; omega
    go_enter Try.func6, Try.ntmps6
    go_wp2_with fail
    refine gone_any.mono ?_
    rintro e w1 ⟨rfl, hb1⟩
    go_wp2_with fail
    refine gone_any.mono ?_
    rintro e w2 ⟨rfl, hb2⟩
    go_wp2
    go_ret
    exact ⟨rfl, below_then hb1 hb2⟩
  · by_cases h2 : 40 < ask.length
    · have t1 : decide ((40 : Int) < (l.length : Int)) = false := by simp; omega
      have t2 : decide ((40 : Int) < (ask.length : Int)) = true := by simp; omega
      go_enter Try.func6, Try.ntmps6
      go_wp2_with fail
      refine gone_any.mono ?_
      rintro e w1 ⟨rfl, hb1⟩
      go_wp2_with fail
      refine gone_any.mono ?_
      rintro e w2 ⟨rfl, hb2⟩
      go_wp2
      go_ret
      exact ⟨rfl, below_then hb1 hb2⟩
    · have t1 : decide ((40 : Int) < (l.length : Int)) = false := by simp; omega
      have t2 : decide ((40 : Int) < (ask.length : Int)) = false := by simp; omega
      go_enter Try.func6, Try.ntmps6
      go_wp2_with fail
      refine gone_any.mono ?_
      rintro e w1 ⟨rfl, b1⟩
      have s1 := b1.size
      go_wp2_with fail
      refine new_any.mono ?_
      rintro e w2 ⟨rfl, d2, b2⟩
      have s2 := d2.2.1 _ rfl
      have b12 := below_then b1 b2
      go_wp2_with fail
      refine new_any.mono ?_
      rintro e w3 ⟨rfl, e3, b3⟩
      have b13 := below_then b12 b3
      have two : Two w3 w.heap.size w1.heap.size w2.heap.size [] 0 [] 0 := ⟨_, _, d2.below b3, e3, fun j hj => ⟨by omega, fun e => by omega⟩, fun j hj => by omega⟩
      clear d2 e3 b1 b2 b3 b12
      obtain ⟨c1, hc1⟩ : ∃ c1, c1 = w1.heap.size := ⟨_, rfl⟩
      obtain ⟨c2, hc2⟩ : ∃ c2, c2 = w2.heap.size := ⟨_, rfl⟩
      rw [← hc1, ← hc2] at two
      simp only [← hc1, ← hc2]
      clear hc1 hc2
      go_wp2
      go_loopw [9, 10] (fun a i wr => ∃ (k n : Nat) (vs : List Ver), k ≤ l.length ∧ i = .int .i64 k ∧ a = .int .i64 n ∧ n ≤ 3 * k ∧ Below w.heap.size w wr ∧ Two wr w.heap.size c1 c2 vs n vs n ∧ Good vs n ∧ vs.length ≤ k) (fun _ i _ => l.length - (intOf i).toNat)
      case atStart => exact ⟨0, 0, [], Nat.zero_le _, rfl, rfl, Nat.le_refl _, b13, two, Good.nil, Nat.le_refl _⟩
      case round =>
        clear b13 two
        obtain ⟨k, n, vs, hk, rfl, rfl, hnk, b3, d3, hg, hvk⟩ := hrel
        have s3 := b3.size
        by_cases hlt : k < l.length
        · obtain ⟨ab, ao, B, c, rfl, y0, _, y2, bp, _⟩ := h.at_ k hlt
          have x0 := below_cell b3 y0
          have x2 := below_cell b3 y2
          by_cases h30 : 30 < l[k].p.length
          · have t30 : decide ((30 : Int) < (l[k].p.length : Int)) = true := by simp; omega
            go_wp2
            go_ret
            exact ⟨rfl, b3⟩
          · have t30 : decide ((30 : Int) < (l[k].p.length : Int)) = false := by simp; omega
            obtain ⟨m, hm⟩ : ∃ m : Nat, m = n + 1 + l[k].d.toNat % 3 := ⟨_, rfl⟩
            have hm5 : l[k].d.toNat % 3 < 3 := Nat.mod_lt _ (by omega)
            have em : (n : Int) + (1 + (l[k].d.toNat : Int) % 3) = (m : Int) := by omega
            have hnm : (n : Int) < (m : Int) := by omega
            have hmk : m ≤ 3 * (k + 1) := by omega
            have P1 := hid (two_put (w := wr.drew) (g := decide ((200 : Int) ≤ (l[k].d.toNat : Int))) s3 (d3.below (Below.refl _ wr).drew) hnm (bp.below b3.drew) (by omega) (by omega))
            have HG2 := hid (hg.put (row := l[k].p) (g := decide ((200 : Int) ≤ (l[k].d.toNat : Int))) hnm (by omega) (by omega))
            clear hm hm5 hg d3
            go_wp2
            refine start_ (n := 14) (S := fun w' => w'.cell? ⟨ab, ao + k * 3, none⟩ = some (.int .u8 (l[k].d.toNat : Int)) ∧ w'.cell? ⟨ab, ao + k * 3 + 2, none⟩ = some (.slice B l[k].p.length c)) (ds := []) #[false, false, false, false, false, false, false, false, false, false, false, false, false, false] (by kernel_rfl) rfl rfl ⟨x0, x2⟩ (fun hHeld => ?_)
            refine pure_ (i := 0) (N := some 57) (v := ?_) (a' := ?_) #[true, false, false, false, false, false, false, false, false, false, false, false, false, false] rfl rfl (by kernel_rfl) (fun _ _ _ h => h) (Or.inl ⟨by rfl, ?_⟩) ?_ ?_
            rotate_left
            · intro w'
              go_simp
              with_reducible rfl
            rotate_left
            · simp only [Act.put, List.setIfInBounds_toArray, List.set_cons_zero, List.set_cons_succ, i64_w, i32_w]
              rfl
            refine pure_ (i := 1) (N := some 58) (v := ?_) (a' := ?_) #[true, true, false, false, false, false, false, false, false, false, false, false, false, false] rfl rfl (by kernel_rfl) (fun _ _ _ h => h) (Or.inl ⟨by rfl, ?_⟩) ?_ ?_
            rotate_left
            · intro w'
              go_simp
              with_reducible rfl
            rotate_left
            · simp only [Act.put, List.setIfInBounds_toArray, List.set_cons_zero, List.set_cons_succ, i64_w, i32_w]
              rfl
            refine pure_ (i := 2) (N := some 59) (v := ?_) (a' := ?_) #[true, true, true, false, false, false, false, false, false, false, false, false, false, false] rfl rfl (by kernel_rfl) (fun _ _ _ h => h) (Or.inl ⟨by rfl, ?_⟩) ?_ ?_
            rotate_left
            · intro w'
              go_simp
              with_reducible rfl
            rotate_left
            · simp only [Act.put, List.setIfInBounds_toArray, List.set_cons_zero, List.set_cons_succ, i64_w, i32_w]
              rfl
            refine pure_ (i := 3) (N := some 60) (v := ?_) (a' := ?_) #[true, true, true, true, false, false, false, false, false, false, false, false, false, false] rfl rfl (by kernel_rfl) (fun _ _ _ h => h) (Or.inl ⟨by rfl, ?_⟩) ?_ ?_
            rotate_left
            · intro w'
              go_simp
              with_reducible rfl
            rotate_left
            · simp only [Act.put, List.setIfInBounds_toArray, List.set_cons_zero, List.set_cons_succ, i64_w, i32_w]
              rfl
            refine pure_ (i := 4) (N := some 61) (v := ?_) (a' := ?_) #[true, true, true, true, true, false, false, false, false, false, false, false, false, false] rfl rfl (by kernel_rfl) (fun _ _ _ h => h) (Or.inl ⟨by rfl, ?_⟩) ?_ ?_
            rotate_left
            · intro w'
              go_simp
              with_reducible rfl
            rotate_left
            · simp only [Act.put, List.setIfInBounds_toArray, List.set_cons_zero, List.set_cons_succ, i64_w, i32_w]
              rfl
            refine pure_ (i := 5) (N := some 62) (v := ?_) (a' := ?_) #[true, true, true, true, true, true, false, false, false, false, false, false, false, false] rfl rfl (by kernel_rfl) (fun _ _ _ h => h) (Or.inl ⟨by rfl, ?_⟩) ?_ ?_
            rotate_left
            · intro w'
              go_simp
              with_reducible rfl
            rotate_left
            · simp only [Act.put, List.setIfInBounds_toArray, List.set_cons_zero, List.set_cons_succ, i64_w, i32_w]
              rfl
            refine pure_ (i := 7) (N := some 64) (v := ?_) (a' := ?_) #[true, true, true, true, true, true, false, true, false, false, false, false, false, false] rfl rfl (by kernel_rfl) (fun _ _ _ h => h) (Or.inl ⟨by rfl, ?_⟩) ?_ ?_
            rotate_left
            · intro w'
              go_simp
              with_reducible rfl
            rotate_left
            · simp only [Act.put, List.setIfInBounds_toArray, List.set_cons_zero, List.set_cons_succ, i64_w, i32_w]
              rfl
            refine pure_ (i := 8) (N := some 65) (v := ?_) (a' := ?_) #[true, true, true, true, true, true, false, true, true, false, false, false, false, false] rfl rfl (by kernel_rfl) (fun _ _ _ h => h) (Or.inl ⟨by rfl, ?_⟩) ?_ ?_
            rotate_left
            · intro w'
              go_simp
              with_reducible rfl
            rotate_left
            · simp only [Act.put, List.setIfInBounds_toArray, List.set_cons_zero, List.set_cons_succ, i64_w, i32_w]
              rfl
            refine pure_ (i := 9) (N := some 66) (v := ?_) (a' := ?_) #[true, true, true, true, true, true, false, true, true, true, false, false, false, false] rfl rfl (by kernel_rfl) (fun _ _ _ h => h) (Or.inl ⟨by rfl, ?_⟩) ?_ ?_
            rotate_left
            · intro w'
              go_simp
              with_reducible rfl
            rotate_left
            · simp only [Act.put, List.setIfInBounds_toArray, List.set_cons_zero, List.set_cons_succ, i64_w, i32_w]
              rfl
            refine pure_ (i := 10) (N := some 67) (v := ?_) (a' := ?_) #[true, true, true, true, true, true, false, true, true, true, true, false, false, false] rfl rfl (by kernel_rfl) (fun _ _ _ h => h) (Or.inl ⟨by rfl, ?_⟩) ?_ ?_
            rotate_left
            · intro w'
              go_simp
              with_reducible rfl
            rotate_left
            · simp only [Act.put, List.setIfInBounds_toArray, List.set_cons_zero, List.set_cons_succ, i64_w, i32_w]
              rfl
            refine take_ (i := 6) (N := some 63) (v := ?_) (a' := ?_) #[true, true, true, true, true, true, true, true, true, true, true, false, false, false] rfl rfl (by kernel_rfl) (fun _ _ _ h => h) (Or.inl ⟨by rfl, ?_⟩) hHeld ?_ ?_
            rotate_left
            · rintro w' ⟨s0, s1⟩
              go_simp
              with_reducible rfl
            rotate_left
            · simp only [Act.put, List.setIfInBounds_toArray, List.set_cons_zero, List.set_cons_succ, i64_w, i32_w]
              rfl
            refine take_ (i := 11) (N := some 68) (v := ?_) (a' := ?_) #[true, true, true, true, true, true, true, true, true, true, true, true, false, false] rfl rfl (by kernel_rfl) (fun _ _ _ h => h) (Or.inl ⟨by rfl, ?_⟩) hHeld ?_ ?_
            rotate_left
            · rintro w' ⟨s0, s1⟩
              go_simp
              with_reducible rfl
            rotate_left
            · simp only [Act.put, List.setIfInBounds_toArray, List.set_cons_zero, List.set_cons_succ, i64_w, i32_w]
              rfl
            refine pure_ (i := 12) (N := some 69) (v := ?_) (a' := ?_) #[true, true, true, true, true, true, true, true, true, true, true, true, true, false] rfl rfl (by kernel_rfl) (fun _ _ _ h => h) (Or.inl ⟨by rfl, ?_⟩) ?_ ?_
            rotate_left
            · intro w'
              go_simp
              with_reducible rfl
            rotate_left
            · simp only [Act.put, List.setIfInBounds_toArray, List.set_cons_zero, List.set_cons_succ, i64_w, i32_w]
              rfl
            refine one_ (i := 13) (N := some 70) #[true, true, true, true, true, true, true, true, true, true, true, true, true, true] rfl rfl (by kernel_rfl) (by decide) (fun K hK => ?_)
            refine goes_ Try.func12 (by kernel_rfl) rfl #[.pointer (some ⟨c1, 0, none⟩), .int .i64 m, .slice B l[k].p.length c, .bool (decide ((200 : Int) ≤ (l[k].d.toNat : Int)))] (by rfl) rfl rfl (by simp only [List.map_toArray, List.map_cons, List.map_nil]; rfl) ?_
            with_reducible refine (P1.out).mono ?_
            rintro e w4 ⟨rfl, d4, b4⟩
            refine ⟨_, rfl, ?_⟩
            have b34 : Below w.heap.size w w4 := b3.drew.trans b4
            have z0 := below_cell b34 y0
            have z2 := below_cell b34 y2
            refine hK.out _ _ ⟨z0, z2⟩ (fun hHeld => ?_)
            clear hK K
            refine norm_ (a' := ?_) ?_ ?_
            rotate_left
            · show Act.put _ (some 70) _ = _
              simp only [Act.put, List.setIfInBounds_toArray, List.set_cons_zero, List.set_cons_succ, i64_w, i32_w]
              rfl
            refine done_ (by kernel_rfl) ?_
            have s4 := b34.size
            have P2 := hid (two_put (w := w4.drew) (g := decide ((200 : Int) ≤ (l[k].d.toNat : Int))) s4 (d4.swap.below (Below.refl _ w4).drew) hnm (bp.below b34.drew) (by omega) (by omega))
            clear d4 b4 x0 x2
            go_wp2
            refine start_ (n := 14) (S := fun w' => w'.cell? ⟨ab, ao + k * 3, none⟩ = some (.int .u8 (l[k].d.toNat : Int)) ∧ w'.cell? ⟨ab, ao + k * 3 + 2, none⟩ = some (.slice B l[k].p.length c)) (ds := []) #[false, false, false, false, false, false, false, false, false, false, false, false, false, false] (by kernel_rfl) rfl rfl ⟨z0, z2⟩ (fun hHeld => ?_)
            refine pure_ (i := 0) (N := some 71) (v := ?_) (a' := ?_) #[true, false, false, false, false, false, false, false, false, false, false, false, false, false] rfl rfl (by kernel_rfl) (fun _ _ _ h => h) (Or.inl ⟨by rfl, ?_⟩) ?_ ?_
            rotate_left
            · intro w'
              go_simp
              with_reducible rfl
            rotate_left
            · simp only [Act.put, List.setIfInBounds_toArray, List.set_cons_zero, List.set_cons_succ, i64_w, i32_w]
              rfl
            refine pure_ (i := 1) (N := some 72) (v := ?_) (a' := ?_) #[true, true, false, false, false, false, false, false, false, false, false, false, false, false] rfl rfl (by kernel_rfl) (fun _ _ _ h => h) (Or.inl ⟨by rfl, ?_⟩) ?_ ?_
            rotate_left
            · intro w'
              go_simp
              with_reducible rfl
            rotate_left
            · simp only [Act.put, List.setIfInBounds_toArray, List.set_cons_zero, List.set_cons_succ, i64_w, i32_w]
              rfl
            refine pure_ (i := 2) (N := some 73) (v := ?_) (a' := ?_) #[true, true, true, false, false, false, false, false, false, false, false, false, false, false] rfl rfl (by kernel_rfl) (fun _ _ _ h => h) (Or.inl ⟨by rfl, ?_⟩) ?_ ?_
            rotate_left
            · intro w'
              go_simp
              with_reducible rfl
            rotate_left
            · simp only [Act.put, List.setIfInBounds_toArray, List.set_cons_zero, List.set_cons_succ, i64_w, i32_w]
              rfl
            refine pure_ (i := 3) (N := some 74) (v := ?_) (a' := ?_) #[true, true, true, true, false, false, false, false, false, false, false, false, false, false] rfl rfl (by kernel_rfl) (fun _ _ _ h => h) (Or.inl ⟨by rfl, ?_⟩) ?_ ?_
            rotate_left
            · intro w'
              go_simp
              with_reducible rfl
            rotate_left
            · simp only [Act.put, List.setIfInBounds_toArray, List.set_cons_zero, List.set_cons_succ, i64_w, i32_w]
              rfl
            refine pure_ (i := 4) (N := some 75) (v := ?_) (a' := ?_) #[true, true, true, true, true, false, false, false, false, false, false, false, false, false] rfl rfl (by kernel_rfl) (fun _ _ _ h => h) (Or.inl ⟨by rfl, ?_⟩) ?_ ?_
            rotate_left
            · intro w'
              go_simp
              with_reducible rfl
            rotate_left
            · simp only [Act.put, List.setIfInBounds_toArray, List.set_cons_zero, List.set_cons_succ, i64_w, i32_w]
              rfl
            refine pure_ (i := 5) (N := some 76) (v := ?_) (a' := ?_) #[true, true, true, true, true, true, false, false, false, false, false, false, false, false] rfl rfl (by kernel_rfl) (fun _ _ _ h => h) (Or.inl ⟨by rfl, ?_⟩) ?_ ?_
            rotate_left
            · intro w'
              go_simp
              with_reducible rfl
            rotate_left
            · simp only [Act.put, List.setIfInBounds_toArray, List.set_cons_zero, List.set_cons_succ, i64_w, i32_w]
              rfl
            refine pure_ (i := 7) (N := some 78) (v := ?_) (a' := ?_) #[true, true, true, true, true, true, false, true, false, false, false, false, false, false] rfl rfl (by kernel_rfl) (fun _ _ _ h => h) (Or.inl ⟨by rfl, ?_⟩) ?_ ?_
            rotate_left
            · intro w'
              go_simp
              with_reducible rfl
            rotate_left
            · simp only [Act.put, List.setIfInBounds_toArray, List.set_cons_zero, List.set_cons_succ, i64_w, i32_w]
              rfl
            refine pure_ (i := 8) (N := some 79) (v := ?_) (a' := ?_) #[true, true, true, true, true, true, false, true, true, false, false, false, false, false] rfl rfl (by kernel_rfl) (fun _ _ _ h => h) (Or.inl ⟨by rfl, ?_⟩) ?_ ?_
            rotate_left
            · intro w'
              go_simp
              with_reducible rfl
            rotate_left
            · simp only [Act.put, List.setIfInBounds_toArray, List.set_cons_zero, List.set_cons_succ, i64_w, i32_w]
              rfl
            refine pure_ (i := 9) (N := some 80) (v := ?_) (a' := ?_) #[true, true, true, true, true, true, false, true, true, true, false, false, false, false] rfl rfl (by kernel_rfl) (fun _ _ _ h => h) (Or.inl ⟨by rfl, ?_⟩) ?_ ?_
            rotate_left
            · intro w'
              go_simp
              with_reducible rfl
            rotate_left
            · simp only [Act.put, List.setIfInBounds_toArray, List.set_cons_zero, List.set_cons_succ, i64_w, i32_w]
              rfl
            refine pure_ (i := 10) (N := some 81) (v := ?_) (a' := ?_) #[true, true, true, true, true, true, false, true, true, true, true, false, false, false] rfl rfl (by kernel_rfl) (fun _ _ _ h => h) (Or.inl ⟨by rfl, ?_⟩) ?_ ?_
            rotate_left
            · intro w'
              go_simp
              with_reducible rfl
            rotate_left
            · simp only [Act.put, List.setIfInBounds_toArray, List.set_cons_zero, List.set_cons_succ, i64_w, i32_w]
              rfl
            refine take_ (i := 6) (N := some 77) (v := ?_) (a' := ?_) #[true, true, true, true, true, true, true, true, true, true, true, false, false, false] rfl rfl (by kernel_rfl) (fun _ _ _ h => h) (Or.inl ⟨by rfl, ?_⟩) hHeld ?_ ?_
            rotate_left
            · rintro w' ⟨s0, s1⟩
              go_simp
              with_reducible rfl
            rotate_left
            · simp only [Act.put, List.setIfInBounds_toArray, List.set_cons_zero, List.set_cons_succ, i64_w, i32_w]
              rfl
            refine take_ (i := 11) (N := some 82) (v := ?_) (a' := ?_) #[true, true, true, true, true, true, true, true, true, true, true, true, false, false] rfl rfl (by kernel_rfl) (fun _ _ _ h => h) (Or.inl ⟨by rfl, ?_⟩) hHeld ?_ ?_
            rotate_left
            · rintro w' ⟨s0, s1⟩
              go_simp
              with_reducible rfl
            rotate_left
            · simp only [Act.put, List.setIfInBounds_toArray, List.set_cons_zero, List.set_cons_succ, i64_w, i32_w]
              rfl
            refine pure_ (i := 12) (N := some 83) (v := ?_) (a' := ?_) #[true, true, true, true, true, true, true, true, true, true, true, true, true, false] rfl rfl (by kernel_rfl) (fun _ _ _ h => h) (Or.inl ⟨by rfl, ?_⟩) ?_ ?_
            rotate_left
            · intro w'
              go_simp
              with_reducible rfl
            rotate_left
            · simp only [Act.put, List.setIfInBounds_toArray, List.set_cons_zero, List.set_cons_succ, i64_w, i32_w]
              rfl
            refine one_ (i := 13) (N := some 84) #[true, true, true, true, true, true, true, true, true, true, true, true, true, true] rfl rfl (by kernel_rfl) (by decide) (fun K hK => ?_)
            refine goes_ Try.func12 (by kernel_rfl) rfl #[.pointer (some ⟨c2, 0, none⟩), .int .i64 m, .slice B l[k].p.length c, .bool (decide ((200 : Int) ≤ (l[k].d.toNat : Int)))] (by rfl) rfl rfl (by simp only [List.map_toArray, List.map_cons, List.map_nil]; rfl) ?_
            with_reducible refine (P2.out).mono ?_
            rintro e w5 ⟨rfl, d5, b5⟩
            refine ⟨_, rfl, ?_⟩
            have b35 : Below w.heap.size w w5 := b34.drew.trans b5
            refine hK.out _ _ ⟨below_cell b35 y0, below_cell b35 y2⟩ (fun hHeld => ?_)
            clear hK K
            refine norm_ (a' := ?_) ?_ ?_
            rotate_left
            · show Act.put _ (some 84) _ = _
              simp only [Act.put, List.setIfInBounds_toArray, List.set_cons_zero, List.set_cons_succ, i64_w, i32_w]
              rfl
            refine done_ (by kernel_rfl) ?_
            have d5' := d5.swap
            clear d5 P1 P2 b34 b5
            go_wp2
            go_roundw
            case rel => exact ⟨k + 1, m, _, by omega, by go_num, rfl, hmk, b35, d5', HG2.out, by simp; omega⟩
            case measure => simp [intOf]; omega
        · obtain ⟨low, hlow⟩ : ∃ low, low = below.tmod 100 := ⟨_, rfl⟩
          have hb100 := tmod_100 below
          rw [← hlow] at hb100
          obtain ⟨lo1, lo2⟩ := hb100
          have HG := hid hg
          have T := hid (two_trim (x := low) s3 d3 hg)
          have hvl : vs.length ≤ 40 := by omega
          have hlow' : below.tmod 100 = low := hlow.symm
          clear hg d3 hvk hnk hk hlow
          go_wp2_with fail
          refine T.out.mono ?_
          rintro e w4 ⟨rfl, d4, b4⟩
          have b34 := b3.trans b4
          obtain ⟨t, ht⟩ : ∃ t, t = trimN vs low := ⟨_, rfl⟩
          have htl : t ≤ vs.length := by have := (trimN_spec vs low).1; have := cnt_le vs low; omega
          have HT1 := hid (fun x (hx : low ≤ x) => got_trim (vs := vs) hx)
          have HT2 := hid (trim_again vs low)
          rw [← ht] at d4 HT1 HT2
          simp only [← ht]
          clear T ht b3 b4
          go_wp2
          go_loopw [13] (fun i wr => ∃ k : Nat, k ≤ ask.length ∧ i = .int .i64 k ∧ Below w.heap.size w wr ∧ Two wr w.heap.size c1 c2 (vs.drop t) n vs n) (fun i _ => ask.length - (intOf i).toNat)
          case atStart => exact ⟨0, Nat.zero_le _, rfl, b34, d4⟩
          case round =>
            clear b34 d4
            obtain ⟨k2, hk2, rfl, b5, d5⟩ := hrel
            have s5 := b5.size
            by_cases hlt2 : k2 < ask.length
            · obtain ⟨ad, rfl, ca⟩ := (hi.below b5).cell k2 hlt2
              have hz2 := hz'.out _ (List.getElem_mem hlt2)
              have hz3 := tmod_100 ask[k2]
              obtain ⟨q, hq⟩ : ∃ q, q = ask[k2].tmod 100 := ⟨_, rfl⟩
              rw [← hq] at hz3
              have hq' : ask[k2].tmod 100 = q := hq.symm
              obtain ⟨hq1, hq2⟩ := hz3
              by_cases hneg : low + q < low
              · have hneg' : decide (low + q < low) = true := by simp; omega
                have G1 := get_B d5.fst (HG.out.drop t) (low - (low + q - low))
                rw [HT1.out (low - (low + q - low)) (by omega)] at G1
                have HG1 := hid G1
                have HD := hid d5
                clear hq d5 G1 hz2
                go_wp2_with fail
                refine HG1.out.mono ?_
                rintro e w6 ⟨A6, c6, rfl, m6⟩
                have d6 := HD.out.below m6.2.2
                have HG2 := hid (get_B d6.snd HG.out (low - (low + q - low)))
                have y6 := m6.bsa
                have b6 := b5.trans (m6.2.2.mono s5)
                have s6 := b6.size
                have HD6 := hid d6
                clear d6 HD m6 HG1
                go_wp2_with fail
                refine HG2.out.mono ?_
                rintro e w7 ⟨A7, c7, rfl, m7⟩
                have d7 := HD6.out.below m7.2.2
                have b7 := b6.trans (m7.2.2.mono s6)
                have s7 := b7.size
                have BB := bytes_any (y6.below m7.2.2) m7.bsa
                rw [show decide ((got vs (low - (low + q - low))).1 = (got vs (low - (low + q - low))).1) = true by simp] at BB
                have HB := hid BB
                have tt : ((got vs (low - (low + q - low))).2 != (got vs (low - (low + q - low))).2) = false := by simp
                clear BB y6 HG2 HD6 m7
                go_wp2_with fail
                refine HB.out.mono ?_
                rintro e w8 ⟨rfl, b8⟩
                have b78 := b7.trans (b8.mono s7)
                have d8 := d7.below b8
                go_wp2
                go_roundw
                case rel => exact ⟨k2 + 1, by omega, by go_num, b78, d8⟩
                case measure => simp [intOf]; omega
              · have hneg' : decide (low + q < low) = false := by simp; omega
                have G1 := get_B d5.fst (HG.out.drop t) (low + q)
                rw [HT1.out (low + q) (by omega)] at G1
                have HG1 := hid G1
                have HD := hid d5
                clear hq d5 G1 hz2
                go_wp2_with fail
                refine HG1.out.mono ?_
                rintro e w6 ⟨A6, c6, rfl, m6⟩
                have d6 := HD.out.below m6.2.2
                have HG2 := hid (get_B d6.snd HG.out (low + q))
                have y6 := m6.bsa
                have b6 := b5.trans (m6.2.2.mono s5)
                have s6 := b6.size
                have HD6 := hid d6
                clear d6 HD m6 HG1
                go_wp2_with fail
                refine HG2.out.mono ?_
                rintro e w7 ⟨A7, c7, rfl, m7⟩
                have d7 := HD6.out.below m7.2.2
                have b7 := b6.trans (m7.2.2.mono s6)
                have s7 := b7.size
                have BB := bytes_any (y6.below m7.2.2) m7.bsa
                rw [show decide ((got vs (low + q)).1 = (got vs (low + q)).1) = true by simp] at BB
                have HB := hid BB
                have tt : ((got vs (low + q)).2 != (got vs (low + q)).2) = false := by simp
                clear BB y6 HG2 HD6 m7
                go_wp2_with fail
                refine HB.out.mono ?_
                rintro e w8 ⟨rfl, b8⟩
                have b78 := b7.trans (b8.mono s7)
                have d8 := d7.below b8
                go_wp2
                go_roundw
                case rel => exact ⟨k2 + 1, by omega, by go_num, b78, d8⟩
                case measure => simp [intOf]; omega
            · have HD := hid d5
              have HT := hid (trim_B (x := low) s5 d5.fst (HG.out.drop t))
              rw [HT2.out] at HT
              have HL1 := hid (len_B d5.fst)
              have HL2 := hid (len_B d5.snd)
              have HL3 := hid (last_B d5.fst)
              have HL4 := hid (last_B d5.snd)
              have edl : (((vs.drop t).length : Nat) : Int) = (vs.length : Int) - (t : Int) := by simp; omega
              rw [edl] at HL1
              have ht0 : decide ((t : Int) ≥ 0) = true := by simp
              clear d5 edl
              go_wp2_with fail
              refine HL1.out.mono ?_
              rintro e w6 ⟨rfl, rfl⟩
              go_wp2_with fail
              refine HL2.out.mono ?_
              rintro e w6 ⟨rfl, rfl⟩
              go_wp2_with fail
              refine HL3.out.mono ?_
              rintro e w6 ⟨rfl, rfl⟩
              go_wp2_with fail
              refine HL4.out.mono ?_
              rintro e w6 ⟨rfl, rfl⟩
              go_wp2_with fail
              refine HT.out.mono ?_
              rintro e w6 ⟨rfl, _, b6⟩
              go_wp2
              go_ret
              exact ⟨rfl, b5.trans b6⟩
end Go.Proofs.Ytlfimleciemobab
