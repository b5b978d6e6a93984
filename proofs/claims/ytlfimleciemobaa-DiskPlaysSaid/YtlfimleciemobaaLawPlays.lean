/- DiskPlays: the disk does what the reference's disk does. -/
import Derived.Test.YtlfimleciemobaaPair
import Derived.Test.YtlfimleciemobaaActs
import Derived.Deep.DeepCutAuto
import Derived.Deep.CutBlock
set_option linter.unusedVariables false
set_option linter.unusedSimpArgs false
namespace Go.Proofs.Ytlfimleciemobaa
open Go.RowKit PrintLast

theorem tmod_b (z m : Int) (h : 0 < m) : -m < z.tmod m ∧ z.tmod m < m := by
  by_cases hz : 0 ≤ z
  · rw [Int.tmod_eq_emod_of_nonneg hz]
    have h1 := Int.emod_nonneg z (show m ≠ 0 by omega)
    have h2 := Int.emod_lt_of_pos z h
    omega
  · have e : z.tmod m = -((-z).tmod m) := by rw [Int.neg_tmod]; omega
    rw [e, Int.tmod_eq_emod_of_nonneg (by omega)]
    have h1 := Int.emod_nonneg (-z) (show m ≠ 0 by omega)
    have h2 := Int.emod_lt_of_pos (-z) h
    omega

theorem len_append (s : DS) (q : List UInt8) : (s.append q).p.length ≤ s.p.length + q.length := by
  unfold DS.append
  cases s.ok <;> simp
theorem len_sync (s : DS) : s.sync.p.length ≤ s.p.length := by
  unfold DS.sync
  cases s.ok <;> simp [DS.called]
theorem len_cuts (s : DS) (n : Int) : (s.cuts n).p.length ≤ s.p.length := by
  unfold DS.cuts
  cases s.ok with
  | false => simp
  | true => simp only [if_true, DS.cut, List.length_take]; exact Nat.le_trans (Nat.min_le_right _ _) (Nat.le_refl _)
theorem len_crash (s : DS) (n : Int) : (s.crash n).p.length ≤ s.p.length := by
  simp only [DS.crash, List.length_take]; omega
theorem PairH.le {w : World} {B b b' : Nat} {s : DS} {t : RS} (h : PairH w B b b' s t) : s.safe ≤ s.p.length := by
  obtain ⟨r, r', ⟨A, c, _, _, _, h4, _⟩, _⟩ := h
  exact h4

/-- What a round finds of the two and of its act, and what the act's two calls leave. -/
def Told (w : World) (B b b' : Nat) (s : DS) (x : Nat) (o : Obj) (K : Nat) (wx : World) : Prop :=
  ∃ s', Pair wx B b b' s' s'.ref x o ∧ s'.p.length ≤ s.p.length + K ∧ Below B w wx

set_option maxHeartbeats 1600000 in
set_option maxRecDepth 100000 in
theorem plays_walk {w : World} {A0 A : Option Addr} {c0' cap : Nat} {p : List UInt8} {l : List DAct} (hp0 : BSA w A0 c0' p) (h0 : l.length ≤ cap ∧ cap ≤ maxLen ∧ ActsAt w A l) :
    Calls Try.prog 5 #[.slice A0 p.length c0', .slice A l.length cap] w fun e w' => e = .returned (.bool true) ∧ Below w.heap.size w w' := by
  obtain ⟨hl, hm, h⟩ := h0
  unfold maxLen at hm
  by_cases h60 : 60 < p.length
  · have t60 : decide ((60 : Int) < (p.length : Int)) = true := by simp; omega
    go_enter Try.func5, Try.ntmps5
    go_wp2_with fail
    refine keeps_any.mono ?_
    rintro e w1 ⟨rfl, hb1⟩
    go_wp2_with fail
    refine keeps_any.mono ?_
    rintro e w2 ⟨rfl, hb2⟩
    go_wp2
    go_ret
    exact ⟨rfl, below_then hb1 hb2⟩
  · have t60 : decide ((60 : Int) < (p.length : Int)) = false := by simp; omega
    by_cases h80 : 80 < l.length
    · have t80 : decide ((80 : Int) < (l.length : Int)) = true := by simp; omega
      go_enter Try.func5, Try.ntmps5
      go_wp2_with fail
      refine keeps_any.mono ?_
      rintro e w1 ⟨rfl, hb1⟩
      go_wp2_with fail
      refine keeps_any.mono ?_
      rintro e w2 ⟨rfl, hb2⟩
      go_wp2
      go_ret
      exact ⟨rfl, below_then hb1 hb2⟩
    · have t80 : decide ((80 : Int) < (l.length : Int)) = false := by simp; omega
      go_enter Try.func5, Try.ntmps5
      go_wp2_with fail
      refine keeps_any.mono ?_
      rintro e w1 ⟨rfl, hb1⟩
      go_wp2_with fail
      refine (new_any (hp0.below hb1) (by omega)).mono ?_
      rintro e w2 ⟨b, r, rfl, d2, n1, n2, hb2⟩
      go_wp2_with fail
      refine (rnew_any ((hp0.below hb1).below hb2) (by omega)).mono ?_
      rintro e w3 ⟨b', r', rfl, d3, m1, m2, hb3⟩
      have hb := below_then (below_then hb1 hb2) hb3
      have P0 : PairH w3 w.heap.size b b' ⟨p, p.length, 0, false⟩ (DS.ref ⟨p, p.length, 0, false⟩) := by
        have l2 := d2.lt
        have s1 := hb1.size
        have s2 := hb2.size
        refine ⟨r, r', d2.keeps (Keeps.of_below (S := fun _ => False) hb3) (fun e => e) (fun _ _ e => e), d3, ⟨by omega, by omega, fun k hk => by have := n2 k hk; omega, fun k hk => by have := m2 k hk; omega⟩, by omega, fun e => by have := m2 _ e; omega, fun e => by have := l2.2 _ e; omega, fun k e e' => by have := l2.2 _ e; have := m2 _ e'; omega⟩
      clear hb1 hb2 hb3 d2 d3 n1 n2 m1 m2
      go_wp2
      go_loopw [7] (fun i wr => ∃ k : Nat, k ≤ l.length ∧ i = .int .i64 k ∧ Below w.heap.size w wr ∧ ∃ s, PairH wr w.heap.size b b' s s.ref ∧ s.p.length ≤ 60 + 40 * k) (fun i _ => l.length - (intOf i).toNat)
      case atStart => exact ⟨0, Nat.zero_le _, rfl, hb, ⟨p, p.length, 0, false⟩, P0, by show p.length ≤ _; omega⟩
      case round =>
        clear hb P0
        obtain ⟨k, hk, rfl, hb, s, d, hp⟩ := hrel
        by_cases hlt : k < l.length
        · obtain ⟨ab, ao, B, c, rfl, c0, c1, c2, bp, hn⟩ := h.at_ k hlt
          have s0 := hb.size
          replace c0 := below_cell hb c0
          replace c1 := below_cell hb c1
          replace c2 := below_cell hb c2
          have hqb : ∀ ad, B = some ad → 0 < l[k].p.length → ad.block < w.heap.size := fun ad e hl => by
            have := World.block_lt_of_cell? w _ (bp.2.2.2 ad e 0 hl)
            have e0 : (ad.add 0).block = ad.block := by unfold Addr.add; split <;> rfl
            omega
          by_cases h40 : 40 < l[k].p.length
          · have t40 : decide ((40 : Int) < (l[k].p.length : Int)) = true := by simp; omega
            go_wp2
            go_ret
            exact ⟨rfl, hb.alloc s0 _⟩
          · have t40 : decide ((40 : Int) < (l[k].p.length : Int)) = false := by simp; omega
            have dA := d.alloc (.cells #[.int .u8 (l[k].d.toNat : Int), .int .i64 l[k].n, .slice B l[k].p.length c] 28)
            have hbA := hb.alloc s0 (.cells #[.int .u8 (l[k].d.toNat : Int), .int .i64 l[k].n, .slice B l[k].p.length c] 28)
            have bA : BSA (wr.alloc (.cells #[.int .u8 (l[k].d.toNat : Int), .int .i64 l[k].n, .slice B l[k].p.length c] 28)) B c l[k].p := (bp.below hb).below ((Below.refl _ wr).alloc (Nat.le_refl _) _)
            clear d hb
            go_upto_block 2 with fail
            clear c0 c1 c2
            have sA := hbA.size
            go_cut [9] (fun u wx => u = .bool true ∧ ∃ s', Pair wx w.heap.size b b' s' s'.ref wr.heap.size (.cells #[.int .u8 (l[k].d.toNat : Int), .int .i64 l[k].n, .slice B l[k].p.length c] 28) ∧ s'.p.length ≤ 60 + 40 * (k + 1) ∧ Below w.heap.size w wx)
            case first =>
              generalize hW : wr.alloc (.cells #[.int .u8 (l[k].d.toNat : Int), .int .i64 l[k].n, .slice B l[k].p.length c] 28) = W at *
              clear hW
              have hle := dA.head.le
              have hqb' : ∀ ad, B = some ad → 0 < l[k].p.length → ad.block ≠ b' := fun ad e hl => by have := hqb ad e hl; have := dA.from_.2; omega
              have v7 : l[k].d.toNat % 7 = 0 ∨ l[k].d.toNat % 7 = 1 ∨ l[k].d.toNat % 7 = 2 ∨ l[k].d.toNat % 7 = 3 ∨ l[k].d.toNat % 7 = 4 ∨ l[k].d.toNat % 7 = 5 ∨ l[k].d.toNat % 7 = 6 := by omega
              have B50 := hid (tmod_b l[k].n 50 (by omega))
              have B5 := hid (tmod_b l[k].n 5 (by omega))
              have B30 := hid (tmod_b l[k].n 30 (by omega))
              rcases v7 with hv | hv | hv | hv | hv | hv | hv
              ·
                have q0 : ((l[k].d.toNat : Int) % 7 == 0) = true := by simp; omega
                have q1 : ((l[k].d.toNat : Int) % 7 == 1) = false := by simp; omega
                have q2 : ((l[k].d.toNat : Int) % 7 == 2) = false := by simp; omega
                have q3 : ((l[k].d.toNat : Int) % 7 == 3) = false := by simp; omega
                have q4 : ((l[k].d.toNat : Int) % 7 == 4) = false := by simp; omega
                have q5 : ((l[k].d.toNat : Int) % 7 == 5) = false := by simp; omega
                clear hv
                have C1 := hid (pd_append (w := W.drew) sA (dA.below (Below.refl _ W).drew) (bA.below (Below.refl _ W).drew) (by omega))
                have k0 := cell_at dA.obj (i := 0) (v := .int .u8 (l[k].d.toNat : Int)) rfl
                have k1 := cell_at dA.obj (i := 1) (v := .int .i64 l[k].n) rfl
                have k2 := cell_at dA.obj (i := 2) (v := .slice B l[k].p.length c) rfl
                go_wp2
                refine start_ (n := 10) (S := fun w' => w'.cell? ⟨wr.heap.size, 2, none⟩ = some (.slice B l[k].p.length c)) (ds := []) #[false, false, false, false, false, false, false, false, false, false] (by kernel_rfl) rfl rfl (k2) (fun hHeld => ?_)
                refine pure_ (i := 0) (N := some 57) (v := ?_) (a' := ?_) #[true, false, false, false, false, false, false, false, false, false] rfl rfl (by kernel_rfl) (fun _ _ _ h => h) (Or.inl ⟨by rfl, ?_⟩) ?_ ?_
                rotate_left
                · intro w'
                  go_simp
                  with_reducible rfl
                rotate_left
                · simp only [Act.put, List.setIfInBounds_toArray, List.set_cons_zero, List.set_cons_succ, i64_w, i32_w]
                  rfl
                refine pure_ (i := 1) (N := some 58) (v := ?_) (a' := ?_) #[true, true, false, false, false, false, false, false, false, false] rfl rfl (by kernel_rfl) (fun _ _ _ h => h) (Or.inl ⟨by rfl, ?_⟩) ?_ ?_
                rotate_left
                · intro w'
                  go_simp
                  with_reducible rfl
                rotate_left
                · simp only [Act.put, List.setIfInBounds_toArray, List.set_cons_zero, List.set_cons_succ, i64_w, i32_w]
                  rfl
                refine pure_ (i := 4) (N := some 61) (v := ?_) (a' := ?_) #[true, true, false, false, true, false, false, false, false, false] rfl rfl (by kernel_rfl) (fun _ _ _ h => h) (Or.inl ⟨by rfl, ?_⟩) ?_ ?_
                rotate_left
                · intro w'
                  go_simp
                  with_reducible rfl
                rotate_left
                · simp only [Act.put, List.setIfInBounds_toArray, List.set_cons_zero, List.set_cons_succ, i64_w, i32_w]
                  rfl
                refine pure_ (i := 5) (N := some 62) (v := ?_) (a' := ?_) #[true, true, false, false, true, true, false, false, false, false] rfl rfl (by kernel_rfl) (fun _ _ _ h => h) (Or.inl ⟨by rfl, ?_⟩) ?_ ?_
                rotate_left
                · intro w'
                  go_simp
                  with_reducible rfl
                rotate_left
                · simp only [Act.put, List.setIfInBounds_toArray, List.set_cons_zero, List.set_cons_succ, i64_w, i32_w]
                  rfl
                refine take_ (i := 2) (N := some 59) (v := ?_) (a' := ?_) #[true, true, true, false, true, true, false, false, false, false] rfl rfl (by kernel_rfl) (fun _ _ _ h => h) (Or.inl ⟨by rfl, ?_⟩) hHeld ?_ ?_
                rotate_left
                · intro w' s0
                  go_simp
                  with_reducible rfl
                rotate_left
                · simp only [Act.put, List.setIfInBounds_toArray, List.set_cons_zero, List.set_cons_succ, i64_w, i32_w]
                  rfl
                refine take_ (i := 6) (N := some 63) (v := ?_) (a' := ?_) #[true, true, true, false, true, true, true, false, false, false] rfl rfl (by kernel_rfl) (fun _ _ _ h => h) (Or.inl ⟨by rfl, ?_⟩) hHeld ?_ ?_
                rotate_left
                · intro w' s0
                  go_simp
                  with_reducible rfl
                rotate_left
                · simp only [Act.put, List.setIfInBounds_toArray, List.set_cons_zero, List.set_cons_succ, i64_w, i32_w]
                  rfl
                refine one_ (i := 3) (N := some 60) #[true, true, true, true, true, true, true, false, false, false] rfl rfl (by kernel_rfl) (by decide) (fun K hK => ?_)
                refine goes_ Try.func14 (by kernel_rfl) rfl #[.pointer (some ⟨b, 0, none⟩), .slice B l[k].p.length c] (by rfl) rfl rfl (by simp only [List.map_toArray, List.map_cons, List.map_nil]; rfl) ?_
                with_reducible refine (C1.out).mono ?_
                rintro e w5 ⟨rfl, d5, hb5⟩
                refine ⟨_, rfl, ?_⟩
                have s5 : w.heap.size ≤ w5.heap.size := (hbA.drew.trans hb5).size
                have e0 := cell_at d5.obj (i := 0) (v := .int .u8 (l[k].d.toNat : Int)) rfl
                have e1 := cell_at d5.obj (i := 1) (v := .int .i64 l[k].n) rfl
                have e2 := cell_at d5.obj (i := 2) (v := .slice B l[k].p.length c) rfl
                have C2a := pr_append s5 d5 (bp.below (hbA.drew.trans hb5)) hqb' (by show s.p.length + _ ≤ _; omega)
                rw [ref_errno, ref_append] at C2a
                have C2 := hid C2a
                clear C2a
                refine hK.out _ _ (e2) (fun hHeld => ?_)
                clear hK K
                refine norm_ (a' := ?_) ?_ ?_
                rotate_left
                · show Act.put _ (some 60) _ = _
                  simp only [Act.put, List.setIfInBounds_toArray, List.set_cons_zero, List.set_cons_succ, i64_w, i32_w]
                  rfl
                refine one_ (i := 7) (N := some 64) #[true, true, true, true, true, true, true, true, false, false] rfl rfl (by kernel_rfl) (by decide) (fun K hK => ?_)
                refine goes_ Try.func19 (by kernel_rfl) rfl #[.pointer (some ⟨b', 0, none⟩), .slice B l[k].p.length c] (by rfl) rfl rfl (by simp only [List.map_toArray, List.map_cons, List.map_nil]; rfl) ?_
                with_reducible refine (C2.out).mono ?_
                rintro e w6 ⟨rfl, d6, hb6⟩
                refine ⟨_, rfl, ?_⟩
                have z2 := cell_at d6.obj (i := 2) (v := .slice B l[k].p.length c) rfl
                refine hK.out _ _ (z2) (fun hHeld => ?_)
                clear hK K
                refine norm_ (a' := ?_) ?_ ?_
                rotate_left
                · show Act.put _ (some 64) _ = _
                  simp only [Act.put, List.setIfInBounds_toArray, List.set_cons_zero, List.set_cons_succ, i64_w, i32_w]
                  rfl
                refine pure_ (i := 8) (N := some 65) (v := ?_) (a' := ?_) #[true, true, true, true, true, true, true, true, true, false] rfl rfl (by kernel_rfl) (fun _ _ _ h => h) (Or.inl ⟨by rfl, ?_⟩) ?_ ?_
                rotate_left
                · intro w'
                  go_simp
                  with_reducible rfl
                rotate_left
                · simp only [Act.put, List.setIfInBounds_toArray, List.set_cons_zero, List.set_cons_succ, i64_w, i32_w]
                  rfl
                refine pure_ (i := 9) (N := some 9) (v := ?_) (a' := ?_) #[true, true, true, true, true, true, true, true, true, true] rfl rfl (by kernel_rfl) (fun _ _ _ h => h) (Or.inl ⟨by rfl, ?_⟩) ?_ ?_
                rotate_left
                · intro w'
                  go_simp
                  with_reducible rfl
                rotate_left
                · simp only [Act.put, List.setIfInBounds_toArray, List.set_cons_zero, List.set_cons_succ, i64_w, i32_w]
                  rfl
                refine done_ (by kernel_rfl) ?_
                have L6 : (s.append l[k].p).p.length ≤ 60 + 40 * (k + 1) := by have : (s.append l[k].p).p.length ≤ s.p.length + l[k].p.length := len_append s l[k].p; omega
                have HR := hid (And.intro d6 (And.intro L6 ((hbA.drew.trans hb5).trans hb6)))
                clear d6 d5 hb6 hb5 C1 C2 e0 e1 e2 k0 k1 k2 L6
                go_wp2
                go_meet
                exact ⟨rfl, _, HR.out⟩
              ·
                have q0 : ((l[k].d.toNat : Int) % 7 == 0) = false := by simp; omega
                have q1 : ((l[k].d.toNat : Int) % 7 == 1) = true := by simp; omega
                have q2 : ((l[k].d.toNat : Int) % 7 == 2) = false := by simp; omega
                have q3 : ((l[k].d.toNat : Int) % 7 == 3) = false := by simp; omega
                have q4 : ((l[k].d.toNat : Int) % 7 == 4) = false := by simp; omega
                have q5 : ((l[k].d.toNat : Int) % 7 == 5) = false := by simp; omega
                clear hv
                have C1 := hid (pd_append (w := W.drew) sA (dA.below (Below.refl _ W).drew) (bA.below (Below.refl _ W).drew) (by omega))
                have k0 := cell_at dA.obj (i := 0) (v := .int .u8 (l[k].d.toNat : Int)) rfl
                have k1 := cell_at dA.obj (i := 1) (v := .int .i64 l[k].n) rfl
                have k2 := cell_at dA.obj (i := 2) (v := .slice B l[k].p.length c) rfl
                go_wp2
                refine start_ (n := 10) (S := fun w' => w'.cell? ⟨wr.heap.size, 2, none⟩ = some (.slice B l[k].p.length c)) (ds := []) #[false, false, false, false, false, false, false, false, false, false] (by kernel_rfl) rfl rfl (k2) (fun hHeld => ?_)
                refine pure_ (i := 0) (N := some 57) (v := ?_) (a' := ?_) #[true, false, false, false, false, false, false, false, false, false] rfl rfl (by kernel_rfl) (fun _ _ _ h => h) (Or.inl ⟨by rfl, ?_⟩) ?_ ?_
                rotate_left
                · intro w'
                  go_simp
                  with_reducible rfl
                rotate_left
                · simp only [Act.put, List.setIfInBounds_toArray, List.set_cons_zero, List.set_cons_succ, i64_w, i32_w]
                  rfl
                refine pure_ (i := 1) (N := some 58) (v := ?_) (a' := ?_) #[true, true, false, false, false, false, false, false, false, false] rfl rfl (by kernel_rfl) (fun _ _ _ h => h) (Or.inl ⟨by rfl, ?_⟩) ?_ ?_
                rotate_left
                · intro w'
                  go_simp
                  with_reducible rfl
                rotate_left
                · simp only [Act.put, List.setIfInBounds_toArray, List.set_cons_zero, List.set_cons_succ, i64_w, i32_w]
                  rfl
                refine pure_ (i := 4) (N := some 61) (v := ?_) (a' := ?_) #[true, true, false, false, true, false, false, false, false, false] rfl rfl (by kernel_rfl) (fun _ _ _ h => h) (Or.inl ⟨by rfl, ?_⟩) ?_ ?_
                rotate_left
                · intro w'
                  go_simp
                  with_reducible rfl
                rotate_left
                · simp only [Act.put, List.setIfInBounds_toArray, List.set_cons_zero, List.set_cons_succ, i64_w, i32_w]
                  rfl
                refine pure_ (i := 5) (N := some 62) (v := ?_) (a' := ?_) #[true, true, false, false, true, true, false, false, false, false] rfl rfl (by kernel_rfl) (fun _ _ _ h => h) (Or.inl ⟨by rfl, ?_⟩) ?_ ?_
                rotate_left
                · intro w'
                  go_simp
                  with_reducible rfl
                rotate_left
                · simp only [Act.put, List.setIfInBounds_toArray, List.set_cons_zero, List.set_cons_succ, i64_w, i32_w]
                  rfl
                refine take_ (i := 2) (N := some 59) (v := ?_) (a' := ?_) #[true, true, true, false, true, true, false, false, false, false] rfl rfl (by kernel_rfl) (fun _ _ _ h => h) (Or.inl ⟨by rfl, ?_⟩) hHeld ?_ ?_
                rotate_left
                · intro w' s0
                  go_simp
                  with_reducible rfl
                rotate_left
                · simp only [Act.put, List.setIfInBounds_toArray, List.set_cons_zero, List.set_cons_succ, i64_w, i32_w]
                  rfl
                refine take_ (i := 6) (N := some 63) (v := ?_) (a' := ?_) #[true, true, true, false, true, true, true, false, false, false] rfl rfl (by kernel_rfl) (fun _ _ _ h => h) (Or.inl ⟨by rfl, ?_⟩) hHeld ?_ ?_
                rotate_left
                · intro w' s0
                  go_simp
                  with_reducible rfl
                rotate_left
                · simp only [Act.put, List.setIfInBounds_toArray, List.set_cons_zero, List.set_cons_succ, i64_w, i32_w]
                  rfl
                refine one_ (i := 3) (N := some 60) #[true, true, true, true, true, true, true, false, false, false] rfl rfl (by kernel_rfl) (by decide) (fun K hK => ?_)
                refine goes_ Try.func14 (by kernel_rfl) rfl #[.pointer (some ⟨b, 0, none⟩), .slice B l[k].p.length c] (by rfl) rfl rfl (by simp only [List.map_toArray, List.map_cons, List.map_nil]; rfl) ?_
                with_reducible refine (C1.out).mono ?_
                rintro e w5 ⟨rfl, d5, hb5⟩
                refine ⟨_, rfl, ?_⟩
                have s5 : w.heap.size ≤ w5.heap.size := (hbA.drew.trans hb5).size
                have e0 := cell_at d5.obj (i := 0) (v := .int .u8 (l[k].d.toNat : Int)) rfl
                have e1 := cell_at d5.obj (i := 1) (v := .int .i64 l[k].n) rfl
                have e2 := cell_at d5.obj (i := 2) (v := .slice B l[k].p.length c) rfl
                have C2a := pr_append s5 d5 (bp.below (hbA.drew.trans hb5)) hqb' (by show s.p.length + _ ≤ _; omega)
                rw [ref_errno, ref_append] at C2a
                have C2 := hid C2a
                clear C2a
                refine hK.out _ _ (e2) (fun hHeld => ?_)
                clear hK K
                refine norm_ (a' := ?_) ?_ ?_
                rotate_left
                · show Act.put _ (some 60) _ = _
                  simp only [Act.put, List.setIfInBounds_toArray, List.set_cons_zero, List.set_cons_succ, i64_w, i32_w]
                  rfl
                refine one_ (i := 7) (N := some 64) #[true, true, true, true, true, true, true, true, false, false] rfl rfl (by kernel_rfl) (by decide) (fun K hK => ?_)
                refine goes_ Try.func19 (by kernel_rfl) rfl #[.pointer (some ⟨b', 0, none⟩), .slice B l[k].p.length c] (by rfl) rfl rfl (by simp only [List.map_toArray, List.map_cons, List.map_nil]; rfl) ?_
                with_reducible refine (C2.out).mono ?_
                rintro e w6 ⟨rfl, d6, hb6⟩
                refine ⟨_, rfl, ?_⟩
                have z2 := cell_at d6.obj (i := 2) (v := .slice B l[k].p.length c) rfl
                refine hK.out _ _ (z2) (fun hHeld => ?_)
                clear hK K
                refine norm_ (a' := ?_) ?_ ?_
                rotate_left
                · show Act.put _ (some 64) _ = _
                  simp only [Act.put, List.setIfInBounds_toArray, List.set_cons_zero, List.set_cons_succ, i64_w, i32_w]
                  rfl
                refine pure_ (i := 8) (N := some 65) (v := ?_) (a' := ?_) #[true, true, true, true, true, true, true, true, true, false] rfl rfl (by kernel_rfl) (fun _ _ _ h => h) (Or.inl ⟨by rfl, ?_⟩) ?_ ?_
                rotate_left
                · intro w'
                  go_simp
                  with_reducible rfl
                rotate_left
                · simp only [Act.put, List.setIfInBounds_toArray, List.set_cons_zero, List.set_cons_succ, i64_w, i32_w]
                  rfl
                refine pure_ (i := 9) (N := some 9) (v := ?_) (a' := ?_) #[true, true, true, true, true, true, true, true, true, true] rfl rfl (by kernel_rfl) (fun _ _ _ h => h) (Or.inl ⟨by rfl, ?_⟩) ?_ ?_
                rotate_left
                · intro w'
                  go_simp
                  with_reducible rfl
                rotate_left
                · simp only [Act.put, List.setIfInBounds_toArray, List.set_cons_zero, List.set_cons_succ, i64_w, i32_w]
                  rfl
                refine done_ (by kernel_rfl) ?_
                have L6 : (s.append l[k].p).p.length ≤ 60 + 40 * (k + 1) := by have : (s.append l[k].p).p.length ≤ s.p.length + l[k].p.length := len_append s l[k].p; omega
                have HR := hid (And.intro d6 (And.intro L6 ((hbA.drew.trans hb5).trans hb6)))
                clear d6 d5 hb6 hb5 C1 C2 e0 e1 e2 k0 k1 k2 L6
                go_wp2
                go_meet
                exact ⟨rfl, _, HR.out⟩
              ·
                have q0 : ((l[k].d.toNat : Int) % 7 == 0) = false := by simp; omega
                have q1 : ((l[k].d.toNat : Int) % 7 == 1) = false := by simp; omega
                have q2 : ((l[k].d.toNat : Int) % 7 == 2) = true := by simp; omega
                have q3 : ((l[k].d.toNat : Int) % 7 == 3) = false := by simp; omega
                have q4 : ((l[k].d.toNat : Int) % 7 == 4) = false := by simp; omega
                have q5 : ((l[k].d.toNat : Int) % 7 == 5) = false := by simp; omega
                clear hv
                have C1 := hid (pd_sync (w := W) sA dA)
                have k0 := cell_at dA.obj (i := 0) (v := .int .u8 (l[k].d.toNat : Int)) rfl
                have k1 := cell_at dA.obj (i := 1) (v := .int .i64 l[k].n) rfl
                have k2 := cell_at dA.obj (i := 2) (v := .slice B l[k].p.length c) rfl
                go_wp2_with fail
                refine C1.out.mono ?_
                rintro e w5 ⟨rfl, d5, hb5⟩
                have s5 : w.heap.size ≤ w5.heap.size := (hbA.trans hb5).size
                have e0 := cell_at d5.obj (i := 0) (v := .int .u8 (l[k].d.toNat : Int)) rfl
                have e1 := cell_at d5.obj (i := 1) (v := .int .i64 l[k].n) rfl
                have e2 := cell_at d5.obj (i := 2) (v := .slice B l[k].p.length c) rfl
                have C2a := pr_sync s5 d5
                rw [ref_errno, ref_sync] at C2a
                have C2 := hid C2a
                clear C2a
                go_wp2_with fail
                refine C2.out.mono ?_
                rintro e w6 ⟨rfl, d6, hb6⟩
                have L6 : s.sync.p.length ≤ 60 + 40 * (k + 1) := by have : s.sync.p.length ≤ s.p.length := len_sync s; omega
                have HR := hid (And.intro d6 (And.intro L6 ((hbA.trans hb5).trans hb6)))
                clear d6 d5 hb6 hb5 C1 C2 e0 e1 e2 k0 k1 k2 L6
                go_wp2
                go_meet
                exact ⟨rfl, _, HR.out⟩
              ·
                have q0 : ((l[k].d.toNat : Int) % 7 == 0) = false := by simp; omega
                have q1 : ((l[k].d.toNat : Int) % 7 == 1) = false := by simp; omega
                have q2 : ((l[k].d.toNat : Int) % 7 == 2) = false := by simp; omega
                have q3 : ((l[k].d.toNat : Int) % 7 == 3) = true := by simp; omega
                have q4 : ((l[k].d.toNat : Int) % 7 == 4) = false := by simp; omega
                have q5 : ((l[k].d.toNat : Int) % 7 == 5) = false := by simp; omega
                clear hv
                have C1 := hid (pd_cut (w := W.drew) sA (dA.below (Below.refl _ W).drew) (n := l[k].n) hn (by omega))
                have k0 := cell_at dA.obj (i := 0) (v := .int .u8 (l[k].d.toNat : Int)) rfl
                have k1 := cell_at dA.obj (i := 1) (v := .int .i64 l[k].n) rfl
                have k2 := cell_at dA.obj (i := 2) (v := .slice B l[k].p.length c) rfl
                go_wp2
                refine start_ (n := 10) (S := fun w' => w'.cell? ⟨wr.heap.size, 1, none⟩ = some (.int .i64 l[k].n)) (ds := []) #[false, false, false, false, false, false, false, false, false, false] (by kernel_rfl) rfl rfl (k1) (fun hHeld => ?_)
                refine pure_ (i := 0) (N := some 75) (v := ?_) (a' := ?_) #[true, false, false, false, false, false, false, false, false, false] rfl rfl (by kernel_rfl) (fun _ _ _ h => h) (Or.inl ⟨by rfl, ?_⟩) ?_ ?_
                rotate_left
                · intro w'
                  go_simp
                  with_reducible rfl
                rotate_left
                · simp only [Act.put, List.setIfInBounds_toArray, List.set_cons_zero, List.set_cons_succ, i64_w, i32_w]
                  rfl
                refine pure_ (i := 1) (N := some 76) (v := ?_) (a' := ?_) #[true, true, false, false, false, false, false, false, false, false] rfl rfl (by kernel_rfl) (fun _ _ _ h => h) (Or.inl ⟨by rfl, ?_⟩) ?_ ?_
                rotate_left
                · intro w'
                  go_simp
                  with_reducible rfl
                rotate_left
                · simp only [Act.put, List.setIfInBounds_toArray, List.set_cons_zero, List.set_cons_succ, i64_w, i32_w]
                  rfl
                refine pure_ (i := 4) (N := some 79) (v := ?_) (a' := ?_) #[true, true, false, false, true, false, false, false, false, false] rfl rfl (by kernel_rfl) (fun _ _ _ h => h) (Or.inl ⟨by rfl, ?_⟩) ?_ ?_
                rotate_left
                · intro w'
                  go_simp
                  with_reducible rfl
                rotate_left
                · simp only [Act.put, List.setIfInBounds_toArray, List.set_cons_zero, List.set_cons_succ, i64_w, i32_w]
                  rfl
                refine pure_ (i := 5) (N := some 80) (v := ?_) (a' := ?_) #[true, true, false, false, true, true, false, false, false, false] rfl rfl (by kernel_rfl) (fun _ _ _ h => h) (Or.inl ⟨by rfl, ?_⟩) ?_ ?_
                rotate_left
                · intro w'
                  go_simp
                  with_reducible rfl
                rotate_left
                · simp only [Act.put, List.setIfInBounds_toArray, List.set_cons_zero, List.set_cons_succ, i64_w, i32_w]
                  rfl
                refine take_ (i := 2) (N := some 77) (v := ?_) (a' := ?_) #[true, true, true, false, true, true, false, false, false, false] rfl rfl (by kernel_rfl) (fun _ _ _ h => h) (Or.inl ⟨by rfl, ?_⟩) hHeld ?_ ?_
                rotate_left
                · intro w' s0
                  go_simp
                  with_reducible rfl
                rotate_left
                · simp only [Act.put, List.setIfInBounds_toArray, List.set_cons_zero, List.set_cons_succ, i64_w, i32_w]
                  rfl
                refine take_ (i := 6) (N := some 81) (v := ?_) (a' := ?_) #[true, true, true, false, true, true, true, false, false, false] rfl rfl (by kernel_rfl) (fun _ _ _ h => h) (Or.inl ⟨by rfl, ?_⟩) hHeld ?_ ?_
                rotate_left
                · intro w' s0
                  go_simp
                  with_reducible rfl
                rotate_left
                · simp only [Act.put, List.setIfInBounds_toArray, List.set_cons_zero, List.set_cons_succ, i64_w, i32_w]
                  rfl
                refine one_ (i := 3) (N := some 78) #[true, true, true, true, true, true, true, false, false, false] rfl rfl (by kernel_rfl) (by decide) (fun K hK => ?_)
                refine goes_ Try.func21 (by kernel_rfl) rfl #[.pointer (some ⟨b, 0, none⟩), .int .i64 l[k].n] (by rfl) rfl rfl (by simp only [List.map_toArray, List.map_cons, List.map_nil]; rfl) ?_
                with_reducible refine (C1.out).mono ?_
                rintro e w5 ⟨rfl, d5, hb5⟩
                refine ⟨_, rfl, ?_⟩
                have s5 : w.heap.size ≤ w5.heap.size := (hbA.drew.trans hb5).size
                have e0 := cell_at d5.obj (i := 0) (v := .int .u8 (l[k].d.toNat : Int)) rfl
                have e1 := cell_at d5.obj (i := 1) (v := .int .i64 l[k].n) rfl
                have e2 := cell_at d5.obj (i := 2) (v := .slice B l[k].p.length c) rfl
                have C2a := pr_cut s5 d5 (n := l[k].n) (by show s.p.length ≤ _; omega)
                rw [ref_errno, ref_cuts] at C2a
                have C2 := hid C2a
                clear C2a
                refine hK.out _ _ (e1) (fun hHeld => ?_)
                clear hK K
                refine norm_ (a' := ?_) ?_ ?_
                rotate_left
                · show Act.put _ (some 78) _ = _
                  simp only [Act.put, List.setIfInBounds_toArray, List.set_cons_zero, List.set_cons_succ, i64_w, i32_w]
                  rfl
                refine one_ (i := 7) (N := some 82) #[true, true, true, true, true, true, true, true, false, false] rfl rfl (by kernel_rfl) (by decide) (fun K hK => ?_)
                refine goes_ Try.func22 (by kernel_rfl) rfl #[.pointer (some ⟨b', 0, none⟩), .int .i64 l[k].n] (by rfl) rfl rfl (by simp only [List.map_toArray, List.map_cons, List.map_nil]; rfl) ?_
                with_reducible refine (C2.out).mono ?_
                rintro e w6 ⟨rfl, d6, hb6⟩
                refine ⟨_, rfl, ?_⟩
                have z2 := cell_at d6.obj (i := 1) (v := .int .i64 l[k].n) rfl
                refine hK.out _ _ (z2) (fun hHeld => ?_)
                clear hK K
                refine norm_ (a' := ?_) ?_ ?_
                rotate_left
                · show Act.put _ (some 82) _ = _
                  simp only [Act.put, List.setIfInBounds_toArray, List.set_cons_zero, List.set_cons_succ, i64_w, i32_w]
                  rfl
                refine pure_ (i := 8) (N := some 83) (v := ?_) (a' := ?_) #[true, true, true, true, true, true, true, true, true, false] rfl rfl (by kernel_rfl) (fun _ _ _ h => h) (Or.inl ⟨by rfl, ?_⟩) ?_ ?_
                rotate_left
                · intro w'
                  go_simp
                  with_reducible rfl
                rotate_left
                · simp only [Act.put, List.setIfInBounds_toArray, List.set_cons_zero, List.set_cons_succ, i64_w, i32_w]
                  rfl
                refine pure_ (i := 9) (N := some 9) (v := ?_) (a' := ?_) #[true, true, true, true, true, true, true, true, true, true] rfl rfl (by kernel_rfl) (fun _ _ _ h => h) (Or.inl ⟨by rfl, ?_⟩) ?_ ?_
                rotate_left
                · intro w'
                  go_simp
                  with_reducible rfl
                rotate_left
                · simp only [Act.put, List.setIfInBounds_toArray, List.set_cons_zero, List.set_cons_succ, i64_w, i32_w]
                  rfl
                refine done_ (by kernel_rfl) ?_
                have L6 : (s.cuts l[k].n).p.length ≤ 60 + 40 * (k + 1) := by have : (s.cuts l[k].n).p.length ≤ s.p.length := len_cuts s l[k].n; omega
                have HR := hid (And.intro d6 (And.intro L6 ((hbA.drew.trans hb5).trans hb6)))
                clear d6 d5 hb6 hb5 C1 C2 e0 e1 e2 k0 k1 k2 L6
                go_wp2
                go_meet
                exact ⟨rfl, _, HR.out⟩
              ·
                have q0 : ((l[k].d.toNat : Int) % 7 == 0) = false := by simp; omega
                have q1 : ((l[k].d.toNat : Int) % 7 == 1) = false := by simp; omega
                have q2 : ((l[k].d.toNat : Int) % 7 == 2) = false := by simp; omega
                have q3 : ((l[k].d.toNat : Int) % 7 == 3) = false := by simp; omega
                have q4 : ((l[k].d.toNat : Int) % 7 == 4) = true := by simp; omega
                have q5 : ((l[k].d.toNat : Int) % 7 == 5) = false := by simp; omega
                clear hv
                have C1 := hid (pd_cut (w := W.drew) sA (dA.below (Below.refl _ W).drew) (n := (l[k].n.tmod 50)) (by have := B50.out; omega) (by omega))
                have k0 := cell_at dA.obj (i := 0) (v := .int .u8 (l[k].d.toNat : Int)) rfl
                have k1 := cell_at dA.obj (i := 1) (v := .int .i64 l[k].n) rfl
                have k2 := cell_at dA.obj (i := 2) (v := .slice B l[k].p.length c) rfl
                go_wp2
                refine start_ (n := 12) (S := fun w' => w'.cell? ⟨wr.heap.size, 1, none⟩ = some (.int .i64 l[k].n)) (ds := []) #[false, false, false, false, false, false, false, false, false, false, false, false] (by kernel_rfl) rfl rfl (k1) (fun hHeld => ?_)
                refine pure_ (i := 0) (N := some 86) (v := ?_) (a' := ?_) #[true, false, false, false, false, false, false, false, false, false, false, false] rfl rfl (by kernel_rfl) (fun _ _ _ h => h) (Or.inl ⟨by rfl, ?_⟩) ?_ ?_
                rotate_left
                · intro w'
                  go_simp
                  with_reducible rfl
                rotate_left
                · simp only [Act.put, List.setIfInBounds_toArray, List.set_cons_zero, List.set_cons_succ, i64_w, i32_w]
                  rfl
                refine pure_ (i := 1) (N := some 87) (v := ?_) (a' := ?_) #[true, true, false, false, false, false, false, false, false, false, false, false] rfl rfl (by kernel_rfl) (fun _ _ _ h => h) (Or.inl ⟨by rfl, ?_⟩) ?_ ?_
                rotate_left
                · intro w'
                  go_simp
                  with_reducible rfl
                rotate_left
                · simp only [Act.put, List.setIfInBounds_toArray, List.set_cons_zero, List.set_cons_succ, i64_w, i32_w]
                  rfl
                refine pure_ (i := 5) (N := some 91) (v := ?_) (a' := ?_) #[true, true, false, false, false, true, false, false, false, false, false, false] rfl rfl (by kernel_rfl) (fun _ _ _ h => h) (Or.inl ⟨by rfl, ?_⟩) ?_ ?_
                rotate_left
                · intro w'
                  go_simp
                  with_reducible rfl
                rotate_left
                · simp only [Act.put, List.setIfInBounds_toArray, List.set_cons_zero, List.set_cons_succ, i64_w, i32_w]
                  rfl
                refine pure_ (i := 6) (N := some 92) (v := ?_) (a' := ?_) #[true, true, false, false, false, true, true, false, false, false, false, false] rfl rfl (by kernel_rfl) (fun _ _ _ h => h) (Or.inl ⟨by rfl, ?_⟩) ?_ ?_
                rotate_left
                · intro w'
                  go_simp
                  with_reducible rfl
                rotate_left
                · simp only [Act.put, List.setIfInBounds_toArray, List.set_cons_zero, List.set_cons_succ, i64_w, i32_w]
                  rfl
                refine take_ (i := 2) (N := some 88) (v := ?_) (a' := ?_) #[true, true, true, false, false, true, true, false, false, false, false, false] rfl rfl (by kernel_rfl) (fun _ _ _ h => h) (Or.inl ⟨by rfl, ?_⟩) hHeld ?_ ?_
                rotate_left
                · intro w' s0
                  go_simp
                  with_reducible rfl
                rotate_left
                · simp only [Act.put, List.setIfInBounds_toArray, List.set_cons_zero, List.set_cons_succ, i64_w, i32_w]
                  rfl
                refine pure_ (i := 3) (N := some 89) (v := ?_) (a' := ?_) #[true, true, true, true, false, true, true, false, false, false, false, false] rfl rfl (by kernel_rfl) (fun _ _ _ h => h) (Or.inl ⟨by rfl, ?_⟩) ?_ ?_
                rotate_left
                · intro w'
                  go_simp
                  with_reducible rfl
                rotate_left
                · simp only [Act.put, List.setIfInBounds_toArray, List.set_cons_zero, List.set_cons_succ, i64_w, i32_w]
                  rfl
                refine take_ (i := 7) (N := some 93) (v := ?_) (a' := ?_) #[true, true, true, true, false, true, true, true, false, false, false, false] rfl rfl (by kernel_rfl) (fun _ _ _ h => h) (Or.inl ⟨by rfl, ?_⟩) hHeld ?_ ?_
                rotate_left
                · intro w' s0
                  go_simp
                  with_reducible rfl
                rotate_left
                · simp only [Act.put, List.setIfInBounds_toArray, List.set_cons_zero, List.set_cons_succ, i64_w, i32_w]
                  rfl
                refine pure_ (i := 8) (N := some 94) (v := ?_) (a' := ?_) #[true, true, true, true, false, true, true, true, true, false, false, false] rfl rfl (by kernel_rfl) (fun _ _ _ h => h) (Or.inl ⟨by rfl, ?_⟩) ?_ ?_
                rotate_left
                · intro w'
                  go_simp
                  with_reducible rfl
                rotate_left
                · simp only [Act.put, List.setIfInBounds_toArray, List.set_cons_zero, List.set_cons_succ, i64_w, i32_w]
                  rfl
                refine one_ (i := 4) (N := some 90) #[true, true, true, true, true, true, true, true, true, false, false, false] rfl rfl (by kernel_rfl) (by decide) (fun K hK => ?_)
                refine goes_ Try.func21 (by kernel_rfl) rfl #[.pointer (some ⟨b, 0, none⟩), .int .i64 (l[k].n.tmod 50)] (by rfl) rfl rfl (by simp only [List.map_toArray, List.map_cons, List.map_nil]; rfl) ?_
                with_reducible refine (C1.out).mono ?_
                rintro e w5 ⟨rfl, d5, hb5⟩
                refine ⟨_, rfl, ?_⟩
                have s5 : w.heap.size ≤ w5.heap.size := (hbA.drew.trans hb5).size
                have e0 := cell_at d5.obj (i := 0) (v := .int .u8 (l[k].d.toNat : Int)) rfl
                have e1 := cell_at d5.obj (i := 1) (v := .int .i64 l[k].n) rfl
                have e2 := cell_at d5.obj (i := 2) (v := .slice B l[k].p.length c) rfl
                have C2a := pr_cut s5 d5 (n := (l[k].n.tmod 50)) (by show s.p.length ≤ _; omega)
                rw [ref_errno, ref_cuts] at C2a
                have C2 := hid C2a
                clear C2a
                refine hK.out _ _ (e1) (fun hHeld => ?_)
                clear hK K
                refine norm_ (a' := ?_) ?_ ?_
                rotate_left
                · show Act.put _ (some 90) _ = _
                  simp only [Act.put, List.setIfInBounds_toArray, List.set_cons_zero, List.set_cons_succ, i64_w, i32_w]
                  rfl
                refine one_ (i := 9) (N := some 95) #[true, true, true, true, true, true, true, true, true, true, false, false] rfl rfl (by kernel_rfl) (by decide) (fun K hK => ?_)
                refine goes_ Try.func22 (by kernel_rfl) rfl #[.pointer (some ⟨b', 0, none⟩), .int .i64 (l[k].n.tmod 50)] (by rfl) rfl rfl (by simp only [List.map_toArray, List.map_cons, List.map_nil]; rfl) ?_
                with_reducible refine (C2.out).mono ?_
                rintro e w6 ⟨rfl, d6, hb6⟩
                refine ⟨_, rfl, ?_⟩
                have z2 := cell_at d6.obj (i := 1) (v := .int .i64 l[k].n) rfl
                refine hK.out _ _ (z2) (fun hHeld => ?_)
                clear hK K
                refine norm_ (a' := ?_) ?_ ?_
                rotate_left
                · show Act.put _ (some 95) _ = _
                  simp only [Act.put, List.setIfInBounds_toArray, List.set_cons_zero, List.set_cons_succ, i64_w, i32_w]
                  rfl
                refine pure_ (i := 10) (N := some 96) (v := ?_) (a' := ?_) #[true, true, true, true, true, true, true, true, true, true, true, false] rfl rfl (by kernel_rfl) (fun _ _ _ h => h) (Or.inl ⟨by rfl, ?_⟩) ?_ ?_
                rotate_left
                · intro w'
                  go_simp
                  with_reducible rfl
                rotate_left
                · simp only [Act.put, List.setIfInBounds_toArray, List.set_cons_zero, List.set_cons_succ, i64_w, i32_w]
                  rfl
                refine pure_ (i := 11) (N := some 9) (v := ?_) (a' := ?_) #[true, true, true, true, true, true, true, true, true, true, true, true] rfl rfl (by kernel_rfl) (fun _ _ _ h => h) (Or.inl ⟨by rfl, ?_⟩) ?_ ?_
                rotate_left
                · intro w'
                  go_simp
                  with_reducible rfl
                rotate_left
                · simp only [Act.put, List.setIfInBounds_toArray, List.set_cons_zero, List.set_cons_succ, i64_w, i32_w]
                  rfl
                refine done_ (by kernel_rfl) ?_
                have L6 : (s.cuts (l[k].n.tmod 50)).p.length ≤ 60 + 40 * (k + 1) := by have : (s.cuts (l[k].n.tmod 50)).p.length ≤ s.p.length := len_cuts s (l[k].n.tmod 50); omega
                have HR := hid (And.intro d6 (And.intro L6 ((hbA.drew.trans hb5).trans hb6)))
                clear d6 d5 hb6 hb5 C1 C2 e0 e1 e2 k0 k1 k2 L6
                go_wp2
                go_meet
                exact ⟨rfl, _, HR.out⟩
              ·
                have q0 : ((l[k].d.toNat : Int) % 7 == 0) = false := by simp; omega
                have q1 : ((l[k].d.toNat : Int) % 7 == 1) = false := by simp; omega
                have q2 : ((l[k].d.toNat : Int) % 7 == 2) = false := by simp; omega
                have q3 : ((l[k].d.toNat : Int) % 7 == 3) = false := by simp; omega
                have q4 : ((l[k].d.toNat : Int) % 7 == 4) = false := by simp; omega
                have q5 : ((l[k].d.toNat : Int) % 7 == 5) = true := by simp; omega
                clear hv
                have C1 := hid (pd_fail (w := W) sA dA (n := (l[k].n.tmod 5)) (by have := B5.out; omega))
                have k0 := cell_at dA.obj (i := 0) (v := .int .u8 (l[k].d.toNat : Int)) rfl
                have k1 := cell_at dA.obj (i := 1) (v := .int .i64 l[k].n) rfl
                have k2 := cell_at dA.obj (i := 2) (v := .slice B l[k].p.length c) rfl
                go_wp2_with fail
                refine C1.out.mono ?_
                rintro e w5 ⟨rfl, d5, hb5⟩
                have s5 : w.heap.size ≤ w5.heap.size := (hbA.trans hb5).size
                have e0 := cell_at d5.obj (i := 0) (v := .int .u8 (l[k].d.toNat : Int)) rfl
                have e1 := cell_at d5.obj (i := 1) (v := .int .i64 l[k].n) rfl
                have e2 := cell_at d5.obj (i := 2) (v := .slice B l[k].p.length c) rfl
                have C2a := pr_fail s5 d5 (n := (l[k].n.tmod 5)) (by have := B5.out; omega)
                rw [ref_fail] at C2a
                have C2 := hid C2a
                clear C2a
                go_wp2_with fail
                refine C2.out.mono ?_
                rintro e w6 ⟨rfl, d6, hb6⟩
                have L6 : (s.fail (l[k].n.tmod 5)).p.length ≤ 60 + 40 * (k + 1) := by have : (s.fail (l[k].n.tmod 5)).p.length ≤ s.p.length := Nat.le_refl s.p.length; omega
                have HR := hid (And.intro d6 (And.intro L6 ((hbA.trans hb5).trans hb6)))
                clear d6 d5 hb6 hb5 C1 C2 e0 e1 e2 k0 k1 k2 L6
                go_wp2
                go_meet
                exact ⟨rfl, _, HR.out⟩
              ·
                have q0 : ((l[k].d.toNat : Int) % 7 == 0) = false := by simp; omega
                have q1 : ((l[k].d.toNat : Int) % 7 == 1) = false := by simp; omega
                have q2 : ((l[k].d.toNat : Int) % 7 == 2) = false := by simp; omega
                have q3 : ((l[k].d.toNat : Int) % 7 == 3) = false := by simp; omega
                have q4 : ((l[k].d.toNat : Int) % 7 == 4) = false := by simp; omega
                have q5 : ((l[k].d.toNat : Int) % 7 == 5) = false := by simp; omega
                clear hv
                have C1 := hid (pd_crash (w := W) sA dA (n := (l[k].n.tmod 30)) (by have := B30.out; omega) (by omega))
                have k0 := cell_at dA.obj (i := 0) (v := .int .u8 (l[k].d.toNat : Int)) rfl
                have k1 := cell_at dA.obj (i := 1) (v := .int .i64 l[k].n) rfl
                have k2 := cell_at dA.obj (i := 2) (v := .slice B l[k].p.length c) rfl
                go_wp2_with fail
                refine C1.out.mono ?_
                rintro e w5 ⟨rfl, d5, hb5⟩
                have s5 : w.heap.size ≤ w5.heap.size := (hbA.trans hb5).size
                have e0 := cell_at d5.obj (i := 0) (v := .int .u8 (l[k].d.toNat : Int)) rfl
                have e1 := cell_at d5.obj (i := 1) (v := .int .i64 l[k].n) rfl
                have e2 := cell_at d5.obj (i := 2) (v := .slice B l[k].p.length c) rfl
                have C2a := pr_crash s5 d5 (n := (l[k].n.tmod 30)) (by have := B30.out; omega) (by show s.p.length ≤ _; omega)
                rw [ref_crash s _ hle] at C2a
                have C2 := hid C2a
                clear C2a
                go_wp2_with fail
                refine C2.out.mono ?_
                rintro e w6 ⟨rfl, d6, hb6⟩
                have L6 : (s.crash (l[k].n.tmod 30)).p.length ≤ 60 + 40 * (k + 1) := by have : (s.crash (l[k].n.tmod 30)).p.length ≤ s.p.length := len_crash s (l[k].n.tmod 30); omega
                have HR := hid (And.intro d6 (And.intro L6 ((hbA.trans hb5).trans hb6)))
                clear d6 d5 hb6 hb5 C1 C2 e0 e1 e2 k0 k1 k2 L6
                go_wp2
                go_meet
                exact ⟨rfl, _, HR.out⟩
            case rest =>
              obtain ⟨rfl, s', d1, hp1, hb1⟩ := hcut
              have s1 := hb1.size
              have hle := d1.head.le
              have D := d1.head
              obtain ⟨r1, r1', p1, p2, _⟩ := d1
              have SF := hid (safe_any (show DiskAt wc.drew b r1 s' from p1))
              have RD := hid (read_any (show DiskAt wc.drew b r1 s' from p1) (by omega))
              obtain ⟨A2, c2, g2, gb2, _, _, _⟩ := p2.set
              have x0 := cell_at g2 (i := 0) (v := .slice A2 s'.p.length c2) rfl
              have x1 := cell_at g2 (i := 1) (v := .int .i64 (s'.safe : Int)) rfl
              have gb3 : BSA wc.drew A2 c2 s'.p := gb2
              clear dA hbA bA p1 p2 gb2 g2 hp
              go_wp2
              refine start_ (n := 21) (S := fun w' => w'.cell? ⟨b', 0, none⟩ = some (.slice A2 s'.p.length c2) ∧ w'.cell? ⟨b', 1, none⟩ = some (.int .i64 (s'.safe : Int))) (ds := []) #[false, false, false, false, false, false, false, false, false, false, false, false, false, false, false, false, false, false, false, false, false] (by kernel_rfl) rfl rfl ⟨x0, x1⟩ (fun hHeld => ?_)
              refine pure_ (i := 0) (N := some 109) (v := ?_) (a' := ?_) #[true, false, false, false, false, false, false, false, false, false, false, false, false, false, false, false, false, false, false, false, false] rfl rfl (by kernel_rfl) (fun _ _ _ h => h) (Or.inl ⟨by rfl, ?_⟩) ?_ ?_
              rotate_left
              · intro w'
                go_simp
                with_reducible rfl
              rotate_left
              · simp only [Act.put, List.setIfInBounds_toArray, List.set_cons_zero, List.set_cons_succ, i64_w, i32_w]
                rfl
              refine pure_ (i := 1) (N := some 110) (v := ?_) (a' := ?_) #[true, true, false, false, false, false, false, false, false, false, false, false, false, false, false, false, false, false, false, false, false] rfl rfl (by kernel_rfl) (fun _ _ _ h => h) (Or.inl ⟨by rfl, ?_⟩) ?_ ?_
              rotate_left
              · intro w'
                go_simp
                with_reducible rfl
              rotate_left
              · simp only [Act.put, List.setIfInBounds_toArray, List.set_cons_zero, List.set_cons_succ, i64_w, i32_w]
                rfl
              refine pure_ (i := 2) (N := some 111) (v := ?_) (a' := ?_) #[true, true, true, false, false, false, false, false, false, false, false, false, false, false, false, false, false, false, false, false, false] rfl rfl (by kernel_rfl) (fun _ _ _ h => h) (Or.inl ⟨by rfl, ?_⟩) ?_ ?_
              rotate_left
              · intro w'
                go_simp
                with_reducible rfl
              rotate_left
              · simp only [Act.put, List.setIfInBounds_toArray, List.set_cons_zero, List.set_cons_succ, i64_w, i32_w]
                rfl
              refine pure_ (i := 3) (N := some 112) (v := ?_) (a' := ?_) #[true, true, true, true, false, false, false, false, false, false, false, false, false, false, false, false, false, false, false, false, false] rfl rfl (by kernel_rfl) (fun _ _ _ h => h) (Or.inl ⟨by rfl, ?_⟩) ?_ ?_
              rotate_left
              · intro w'
                go_simp
                with_reducible rfl
              rotate_left
              · simp only [Act.put, List.setIfInBounds_toArray, List.set_cons_zero, List.set_cons_succ, i64_w, i32_w]
                rfl
              refine pure_ (i := 5) (N := some 114) (v := ?_) (a' := ?_) #[true, true, true, true, false, true, false, false, false, false, false, false, false, false, false, false, false, false, false, false, false] rfl rfl (by kernel_rfl) (fun _ _ _ h => h) (Or.inl ⟨by rfl, ?_⟩) ?_ ?_
              rotate_left
              · intro w'
                go_simp
                with_reducible rfl
              rotate_left
              · simp only [Act.put, List.setIfInBounds_toArray, List.set_cons_zero, List.set_cons_succ, i64_w, i32_w]
                rfl
              refine pure_ (i := 6) (N := some 115) (v := ?_) (a' := ?_) #[true, true, true, true, false, true, true, false, false, false, false, false, false, false, false, false, false, false, false, false, false] rfl rfl (by kernel_rfl) (fun _ _ _ h => h) (Or.inl ⟨by rfl, ?_⟩) ?_ ?_
              rotate_left
              · intro w'
                go_simp
                with_reducible rfl
              rotate_left
              · simp only [Act.put, List.setIfInBounds_toArray, List.set_cons_zero, List.set_cons_succ, i64_w, i32_w]
                rfl
              refine pure_ (i := 7) (N := some 116) (v := ?_) (a' := ?_) #[true, true, true, true, false, true, true, true, false, false, false, false, false, false, false, false, false, false, false, false, false] rfl rfl (by kernel_rfl) (fun _ _ _ h => h) (Or.inl ⟨by rfl, ?_⟩) ?_ ?_
              rotate_left
              · intro w'
                go_simp
                with_reducible rfl
              rotate_left
              · simp only [Act.put, List.setIfInBounds_toArray, List.set_cons_zero, List.set_cons_succ, i64_w, i32_w]
                rfl
              refine take_ (i := 8) (N := some 117) (v := ?_) (a' := ?_) #[true, true, true, true, false, true, true, true, true, false, false, false, false, false, false, false, false, false, false, false, false] rfl rfl (by kernel_rfl) (fun _ _ _ h => h) (Or.inl ⟨by rfl, ?_⟩) hHeld ?_ ?_
              rotate_left
              · rintro w' ⟨s0, s1⟩
                go_simp
                with_reducible rfl
              rotate_left
              · simp only [Act.put, List.setIfInBounds_toArray, List.set_cons_zero, List.set_cons_succ, i64_w, i32_w]
                rfl
              refine one_ (i := 4) (N := some 113) #[true, true, true, true, true, true, true, true, true, false, false, false, false, false, false, false, false, false, false, false, false] rfl rfl (by kernel_rfl) (by decide) (fun K hK => ?_)
              refine goes_ Try.func13 (by kernel_rfl) rfl #[.pointer (some ⟨b, 0, none⟩)] (by rfl) rfl rfl (by simp only [List.map_toArray, List.map_cons, List.map_nil]; rfl) ?_
              with_reducible refine (SF.out).mono ?_
              rintro e w5 ⟨rfl, rfl⟩
              refine ⟨_, rfl, ?_⟩
              refine hK.out _ _ ⟨x0, x1⟩ (fun hHeld => ?_)
              clear hK K
              refine norm_ (a' := ?_) ?_ ?_
              rotate_left
              · show Act.put _ (some 113) _ = _
                simp only [Act.put, List.setIfInBounds_toArray, List.set_cons_zero, List.set_cons_succ, i64_w, i32_w]
                rfl
              refine pure_ (i := 9) (N := some 118) (v := ?_) (a' := ?_) #[true, true, true, true, true, true, true, true, true, true, false, false, false, false, false, false, false, false, false, false, false] rfl rfl (by kernel_rfl) (fun _ _ _ h => h) (Or.inl ⟨by rfl, ?_⟩) ?_ ?_
              rotate_left
              · intro w'
                go_simp
                with_reducible rfl
              rotate_left
              · simp only [Act.put, List.setIfInBounds_toArray, List.set_cons_zero, List.set_cons_succ, i64_w, i32_w]
                rfl
              refine pure_ (i := 10) (N := some 119) (v := ?_) (a' := ?_) #[true, true, true, true, true, true, true, true, true, true, true, false, false, false, false, false, false, false, false, false, false] rfl rfl (by kernel_rfl) (fun _ _ _ h => h) (Or.inl ⟨by rfl, ?_⟩) ?_ ?_
              rotate_left
              · intro w'
                go_simp
                with_reducible rfl
              rotate_left
              · simp only [Act.put, List.setIfInBounds_toArray, List.set_cons_zero, List.set_cons_succ, i64_w, i32_w]
                rfl
              refine pure_ (i := 11) (N := some 120) (v := ?_) (a' := ?_) #[true, true, true, true, true, true, true, true, true, true, true, true, false, false, false, false, false, false, false, false, false] rfl rfl (by kernel_rfl) (fun _ _ _ h => h) (Or.inl ⟨by rfl, ?_⟩) ?_ ?_
              rotate_left
              · intro w'
                go_simp
                with_reducible rfl
              rotate_left
              · simp only [Act.put, List.setIfInBounds_toArray, List.set_cons_zero, List.set_cons_succ, i64_w, i32_w]
                rfl
              refine pure_ (i := 12) (N := some 121) (v := ?_) (a' := ?_) #[true, true, true, true, true, true, true, true, true, true, true, true, true, false, false, false, false, false, false, false, false] rfl rfl (by kernel_rfl) (fun _ _ _ h => h) (Or.inl ⟨by rfl, ?_⟩) ?_ ?_
              rotate_left
              · intro w'
                go_simp
                with_reducible rfl
              rotate_left
              · simp only [Act.put, List.setIfInBounds_toArray, List.set_cons_zero, List.set_cons_succ, i64_w, i32_w]
                rfl
              refine pure_ (i := 14) (N := some 123) (v := ?_) (a' := ?_) #[true, true, true, true, true, true, true, true, true, true, true, true, true, false, true, false, false, false, false, false, false] rfl rfl (by kernel_rfl) (fun _ _ _ h => h) (Or.inl ⟨by rfl, ?_⟩) ?_ ?_
              rotate_left
              · intro w'
                go_simp
                with_reducible rfl
              rotate_left
              · simp only [Act.put, List.setIfInBounds_toArray, List.set_cons_zero, List.set_cons_succ, i64_w, i32_w]
                rfl
              refine pure_ (i := 15) (N := some 124) (v := ?_) (a' := ?_) #[true, true, true, true, true, true, true, true, true, true, true, true, true, false, true, true, false, false, false, false, false] rfl rfl (by kernel_rfl) (fun _ _ _ h => h) (Or.inl ⟨by rfl, ?_⟩) ?_ ?_
              rotate_left
              · intro w'
                go_simp
                with_reducible rfl
              rotate_left
              · simp only [Act.put, List.setIfInBounds_toArray, List.set_cons_zero, List.set_cons_succ, i64_w, i32_w]
                rfl
              refine pure_ (i := 16) (N := some 125) (v := ?_) (a' := ?_) #[true, true, true, true, true, true, true, true, true, true, true, true, true, false, true, true, true, false, false, false, false] rfl rfl (by kernel_rfl) (fun _ _ _ h => h) (Or.inl ⟨by rfl, ?_⟩) ?_ ?_
              rotate_left
              · intro w'
                go_simp
                with_reducible rfl
              rotate_left
              · simp only [Act.put, List.setIfInBounds_toArray, List.set_cons_zero, List.set_cons_succ, i64_w, i32_w]
                rfl
              refine take_ (i := 17) (N := some 126) (v := ?_) (a' := ?_) #[true, true, true, true, true, true, true, true, true, true, true, true, true, false, true, true, true, true, false, false, false] rfl rfl (by kernel_rfl) (fun _ _ _ h => h) (Or.inl ⟨by rfl, ?_⟩) hHeld ?_ ?_
              rotate_left
              · rintro w' ⟨s0, s1⟩
                go_simp
                with_reducible rfl
              rotate_left
              · simp only [Act.put, List.setIfInBounds_toArray, List.set_cons_zero, List.set_cons_succ, i64_w, i32_w]
                rfl
              refine one_ (i := 13) (N := some 122) #[true, true, true, true, true, true, true, true, true, true, true, true, true, true, true, true, true, true, false, false, false] rfl rfl (by kernel_rfl) (by decide) (fun K hK => ?_)
              refine goes_ Try.func12 (by kernel_rfl) rfl #[.pointer (some ⟨b, 0, none⟩)] (by rfl) rfl rfl (by simp only [List.map_toArray, List.map_cons, List.map_nil]; rfl) ?_
              with_reducible refine (RD.out).mono ?_
              rintro e w6 ⟨A6, c6, rfl, q1, q2, q3⟩
              refine ⟨_, rfl, ?_⟩
              have BB := bytes_any (own_bsa q1).2.2 (gb3.below q3)
              rw [show decide (s'.p = s'.p) = true by simp] at BB
              have HB := hid BB
              clear BB
              refine hK.out _ _ ⟨below_cell q3 x0, below_cell q3 x1⟩ (fun hHeld => ?_)
              clear hK K
              refine norm_ (a' := ?_) ?_ ?_
              rotate_left
              · show Act.put _ (some 122) _ = _
                simp only [Act.put, List.setIfInBounds_toArray, List.set_cons_zero, List.set_cons_succ, i64_w, i32_w]
                rfl
              refine one_ (i := 18) (N := some 127) #[true, true, true, true, true, true, true, true, true, true, true, true, true, true, true, true, true, true, true, false, false] rfl rfl (by kernel_rfl) (by decide) (fun K hK => ?_)
              refine goes_ Try.func17 (by kernel_rfl) rfl #[.slice A6 s'.p.length c6, .slice A2 s'.p.length c2] (by rfl) rfl rfl (by simp only [List.map_toArray, List.map_cons, List.map_nil]; rfl) ?_
              with_reducible refine (HB.out).mono ?_
              rintro e w7 ⟨rfl, q4⟩
              refine ⟨_, rfl, ?_⟩
              have z0 := below_cell q4 (below_cell q3 x0)
              have z1 := below_cell q4 (below_cell q3 x1)
              refine hK.out _ _ ⟨z0, z1⟩ (fun hHeld => ?_)
              clear hK K
              refine norm_ (a' := ?_) ?_ ?_
              rotate_left
              · show Act.put _ (some 127) _ = _
                simp only [Act.put, List.setIfInBounds_toArray, List.set_cons_zero, List.set_cons_succ, i64_w, i32_w]
                rfl
              refine pure_ (i := 19) (N := some 128) (v := ?_) (a' := ?_) #[true, true, true, true, true, true, true, true, true, true, true, true, true, true, true, true, true, true, true, true, false] rfl rfl (by kernel_rfl) (fun _ _ _ h => h) (Or.inl ⟨by rfl, ?_⟩) ?_ ?_
              rotate_left
              · intro w'
                go_simp
                with_reducible rfl
              rotate_left
              · simp only [Act.put, List.setIfInBounds_toArray, List.set_cons_zero, List.set_cons_succ, i64_w, i32_w]
                rfl
              refine pure_ (i := 20) (N := some 129) (v := ?_) (a' := ?_) #[true, true, true, true, true, true, true, true, true, true, true, true, true, true, true, true, true, true, true, true, true] rfl rfl (by kernel_rfl) (fun _ _ _ h => h) (Or.inl ⟨by rfl, ?_⟩) ?_ ?_
              rotate_left
              · intro w'
                go_simp
                with_reducible rfl
              rotate_left
              · simp only [Act.put, List.setIfInBounds_toArray, List.set_cons_zero, List.set_cons_succ, i64_w, i32_w]
                rfl
              refine done_ (by kernel_rfl) ?_
              have D7 := D.below (((Below.refl _ wc).drew.trans q3).trans (q4.mono q3.size))
              have hb7 := (hb1.drew.trans (q3.mono s1)).trans (q4.mono (Nat.le_trans s1 q3.size))
              clear SF RD HB q1 q2 q3 q4 x0 x1 z0 z1 gb3 D hb1
              go_wp2
              go_roundw
              case rel => exact ⟨k + 1, by omega, by go_num, hb7, s', D7, hp1⟩
              case measure => simp [intOf]; omega
        · go_wp2
          go_ret
          exact ⟨rfl, hb⟩
end Go.Proofs.Ytlfimleciemobaa
