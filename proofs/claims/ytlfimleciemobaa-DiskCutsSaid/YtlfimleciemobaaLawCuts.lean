/- DiskCuts: cut, the first bytes alone are left, and all of them safe. -/
import Derived.Test.YtlfimleciemobaaDiskE
import Derived.IntWalk
import Derived.Deep.DeepCutAuto
import Derived.Deep.CutBlock
import Derived.OpenShut
set_option linter.unusedVariables false
set_option linter.unusedSimpArgs false
namespace Go.Proofs.Ytlfimleciemobaa
open Go.RowKit PrintLast

/-- What the calls ahead come to. -/
theorem cuts_law (p q : List UInt8) (n : Int) (sy : Bool) : ∃ k : Nat, (min (max n 0) ((p ++ q).length : Int)) = (k : Int) ∧ k ≤ (p ++ q).length ∧
    ∀ s : DS, s = (if sy then (⟨p ++ q, (p ++ q).length, 0, false⟩ : DS) else ⟨p ++ q, p.length, 0, false⟩) → s.ok = true ∧ s.cuts n = ⟨(p ++ q).take k, k, 0, false⟩ ∧ (s.cuts n).crash 0 = ⟨(p ++ q).take k, k, 0, false⟩ := by
  refine ⟨(min (max n 0) ((p ++ q).length : Int)).toNat, by omega, by omega, ?_⟩
  intro s hs
  have hc : s.ok = true ∧ s.called = s ∧ s.p = p ++ q ∧ s.calls = 0 ∧ s.fails = false := by
    subst hs; cases sy <;> simp [DS.ok, DS.called]
  obtain ⟨h1, h2, h3, h4, h5⟩ := hc
  have e1 : s.cuts n = ⟨(p ++ q).take (min (max n 0) ((p ++ q).length : Int)).toNat, (min (max n 0) ((p ++ q).length : Int)).toNat, 0, false⟩ := by
    simp only [DS.cuts, h1, if_true, h2, DS.cut, h3, h4, h5]
  refine ⟨h1, e1, ?_⟩
  rw [e1]
  simp only [DS.crash, List.length_take, List.take_take]
  generalize (p ++ q).length = L
  have : (min (max n 0) (L : Int)).toNat + (min (max (0 : Int) 0) (((min (min (max n 0) (L : Int)).toNat L : Nat) : Int) - ((min (max n 0) (L : Int)).toNat : Int))).toNat = (min (max n 0) (L : Int)).toNat := by omega
  rw [this, Nat.min_self]

theorem crash_same (p q : List UInt8) (k : Nat) (h : k ≤ (p ++ q).length) : (⟨(p ++ q).take k, k, 0, false⟩ : DS).crash 0 = ⟨(p ++ q).take k, k, 0, false⟩ := by
  simp only [DS.crash, List.length_take, List.take_take]
  generalize (p ++ q).length = L at h
  have : k + (min (max (0 : Int) 0) (((min k L : Nat) : Int) - (k : Int))).toNat = k := by omega
  rw [this, Nat.min_self]

set_option maxHeartbeats 1600000 in
theorem cuts_walk {w : World} {A A' : Option Addr} {c c' : Nat} {p q : List UInt8} {n : Int} {sy : Bool} (hp : BSA w A c p) (hq : BSA w A' c' q) (hn : (Lit.int .i64 n).wf = true) :
    Calls Try.prog 8 #[.slice A p.length c, .slice A' q.length c', .int .i64 n, .bool sy] w fun e w' => e = .returned (.bool true) ∧ Below w.heap.size w w' := by
  have hn' := bounds_i64 hn
  have hn1 : -9223372036854775808 ≤ n ∧ n ≤ 9223372036854775807 := ⟨by simpa using hn'.1, by simpa using hn'.2⟩
  clear hn hn'
  obtain ⟨hnl, hnh⟩ := hn1
  by_cases h1 : 40 < p.length
  · have t1 : decide ((40 : Int) < (p.length : Int)) = true := by simp; omega
    go_enter Try.func8, Try.ntmps8
    go_wp2_with fail
    refine keeps_any.mono ?_
    rintro e w1 ⟨rfl, hb1⟩
    go_wp2_with fail
    refine keeps_any.mono ?_
    rintro e w2 ⟨rfl, hb2⟩
    go_wp2
    go_ret
    exact ⟨rfl, below_then hb1 hb2⟩
  · by_cases h2 : 40 < q.length
    · have t1 : decide ((40 : Int) < (p.length : Int)) = false := by simp; omega
      have t2 : decide ((40 : Int) < (q.length : Int)) = true := by simp; omega
      go_enter Try.func8, Try.ntmps8
      go_wp2_with fail
      refine keeps_any.mono ?_
      rintro e w1 ⟨rfl, hb1⟩
      go_wp2_with fail
      refine keeps_any.mono ?_
      rintro e w2 ⟨rfl, hb2⟩
      go_wp2
      go_ret
      exact ⟨rfl, below_then hb1 hb2⟩
    · have t1 : decide ((40 : Int) < (p.length : Int)) = false := by simp; omega
      have t2 : decide ((40 : Int) < (q.length : Int)) = false := by simp; omega
      obtain ⟨k, hk, hkl, hlaw⟩ := cuts_law p q n sy
      have hl := hid hlaw
      have hl0 : (p ++ q).length = p.length + q.length := by simp
      have hkl' : k ≤ p.length + q.length := by omega
      clear hlaw
      go_enter Try.func8, Try.ntmps8
      go_wp2_with fail
      refine keeps_any.mono ?_
      rintro e w1 ⟨rfl, b1⟩
      have p1 := hp.below b1
      have q1 := hq.below b1
      have s1 := b1.size
      go_wp2_with fail
      refine (new_B (B := w.heap.size) s1 p1 (by omega)).mono ?_
      rintro e w2 ⟨b, rfl, d2, b2⟩
      have s2 := b2.size
      have p2 := p1.below b2
      have b12 := below_then b1 b2
      go_wp2_with fail
      refine (append_B (B := w.heap.size) (by omega) d2 (q1.below b2) (by simp; omega)).mono ?_
      rintro e w3 ⟨rfl, d3, b3⟩
      have s3 := b3.size
      replace d3 : DiskB w3 w.heap.size b ⟨p ++ q, p.length, 0, false⟩ := d3
      have p3 := hp.below (b12.trans b3)
      have q3 := hq.below (b12.trans b3)
      have b13 := b12.trans b3
      clear d2 p1 q1 p2 b1 b2 b3 b12
      -- the two ways meet
      go_upto_if 31 with fail
      go_cut [] (fun wx => ∃ s, DiskB wx w.heap.size b s ∧ s = (if sy then (⟨p ++ q, (p ++ q).length, 0, false⟩ : DS) else ⟨p ++ q, p.length, 0, false⟩) ∧ Below w.heap.size w wx)
      case first =>
        cases sy with
        | true =>
          go_wp2_with fail
          refine (sync_B (B := w.heap.size) (by omega) d3).mono ?_
          rintro e w4 ⟨rfl, d4, b4⟩
          go_wp2_with fail
          go_meet
          exact ⟨_, d4, rfl, b13.trans b4⟩
        | false =>
          go_wp2_with fail
          go_meet
          exact ⟨_, d3, rfl, b13⟩
      case rest =>
        obtain ⟨s, ⟨hB, r, d4, hr⟩, hs, b4⟩ := hcut
        obtain ⟨ho, e5, e6⟩ := hl.out s hs
        have hsp : s.p.length = p.length + q.length := by rw [hs]; split <;> simp
        clear d3 p3 q3 b13 hs
        have p4 := hp.below b4
        have q4 := hq.below b4
        have s4 := b4.size
        have d4l := d4.lt
        generalize wc = w4 at *
        have HE5 := hid e5
        have HE6 := hid e6
        have HSP : s.p.length ≤ 140737488355328 := by omega
        have her : s.errno = 0 := by simp [DS.errno, ho]
        clear e5 e6 ho hsp
        go_wp2_with fail
        refine (join_any p4 q4 (by omega)).mono ?_
        rintro e w5 ⟨A5, c5, rfl, m5⟩
        have s5 := m5.2.2.size
        have d5 := d4.keeps (Keeps.of_below (S := fun _ => False) m5.2.2) (fun e => e) (fun _ _ e => e)
        have y5 := m5.bsa
        have c5l := y5.1
        rw [hl0] at c5l
        have b5 := b4.trans (m5.2.2.mono s4)
        have a5 : ∀ ad, A5 = some ad → w4.heap.size ≤ ad.block := fun ad e => m5.2.1 ad.block (by rw [e]; rfl)
        clear m5 d4 b4 p4 q4
        have C := cut_at d5 ⟨hnl, hnh⟩ HSP
        rw [her, HE5.out] at C
        have HC := hid C
        clear C her
        have fin : ∀ (r6 r7 : Option Nat) (w6 w7 : World), Next w5 r r6 → Keeps (Foot b r) w5 w6 → DiskAt w6 b r6 ⟨(p ++ q).take k, k, 0, false⟩ → DiskAt w7 b r7 ⟨(p ++ q).take k, k, 0, false⟩ → (∀ k, r7 = some k → w6.heap.size ≤ k) → Keeps (fun k => k = b) w6 w7 → DiskB w7 w.heap.size b ⟨(p ++ q).take k, k, 0, false⟩ ∧ Below w.heap.size w w7 ∧ BSA w7 A5 c5 (p ++ q) := by
          intro r6 r7 w6 w7 n6 k6 _ d7 n7 k7
          have hb6 : Below w.heap.size w w6 := b5.trans ⟨k6.os, k6.tape, k6.output, k6.size, fun j hj => k6.block j (by omega) (fun e => by
            rcases e with e | e
            · omega
            · have := hr j e; omega)⟩
          have s6 := k6.size
          refine ⟨⟨hB, r7, d7, fun j hj => by have := n7 j hj; omega⟩, hb6.trans ⟨k7.os, k7.tape, k7.output, k7.size, fun j hj => k7.block j (by omega) (fun e => by omega)⟩, ?_⟩
          have y6 := y5.keeps k6 (fun ad e hh => by
            have := a5 ad e
            rcases hh with hh | hh
            · omega
            · have := d4l.2 _ hh; omega)
          exact y6.keeps k7 (fun ad e hh => by have := a5 ad e; omega)
        have F := hid fin
        clear fin y5 b5
        by_cases h0 : n < 0
        · have EK := hid (show ((0 : Int)) = (k : Int) by omega)
          go_upto_if 43 with fail
          go_cut [11] (fun u wx => u = .int .i64 (k : Int) ∧ w5 = wx)
          case first =>
            go_wp2_with fail
            go_meet
            exact ⟨congrArg (Value.int .i64) EK.out, rfl⟩
          case rest =>
            obtain ⟨rfl, rfl⟩ := hcut
            go_wp2_with fail
            refine HC.out.mono ?_
            rintro e w6 ⟨rfl, r6, d6, n6, k6⟩
            go_wp2_with fail
            refine (crash_any d6 (by omega) (by simp; omega)).mono ?_
            rintro e w7 ⟨rfl, r7, d7, n7, k7⟩
            rw [crash_same p q k hkl] at d7
            obtain ⟨d8, b8, y8⟩ := F.out r6 r7 w6 w7 n6 k6 d6 d7 n7 k7
            clear F HC n6 k6 d6 d7 n7 k7 HE5 HE6 d5 hl
            have lk : ((p ++ q).take k).length = k := by simp; omega
            have RR := read_B (show DiskB w7.drew w.heap.size b ⟨(p ++ q).take k, k, 0, false⟩ from d8) (by simp; omega)
            simp only [lk] at RR
            have R := hid RR
            have y8' : BSA w7.drew A5 c5 (p ++ q) := y8
            have cutb : BSA w7.drew A5 c5 ((p ++ q).take k) := ⟨by rw [lk]; omega, y8'.2.1, y8'.2.2.1, fun ad e j hj => by rw [List.getElem_take]; exact y8'.2.2.2 ad e j (by rw [lk] at hj; omega)⟩
            have hk5 : k ≤ c5 := by omega
            have D8 := hid (show DiskB w7.drew w.heap.size b ⟨(p ++ q).take k, k, 0, false⟩ from d8)
            clear RR y8 y8' d8
            go_wp2
            refine start_ (n := 17) (S := fun w' => True) (ds := []) #[false, false, false, false, false, false, false, false, false, false, false, false, false, false, false, false, false] (by kernel_rfl) rfl rfl trivial (fun hHeld => ?_)
            refine pure_ (i := 0) (N := some 51) (v := ?_) (a' := ?_) #[true, false, false, false, false, false, false, false, false, false, false, false, false, false, false, false, false] rfl rfl (by kernel_rfl) (fun _ _ _ h => h) (Or.inl ⟨by rfl, ?_⟩) ?_ ?_
            rotate_left
            · intro w'
              go_simp
              with_reducible rfl
            rotate_left
            · simp only [Act.put, List.setIfInBounds_toArray, List.set_cons_zero, List.set_cons_succ, i64_w, i32_w]
              rfl
            refine pure_ (i := 1) (N := some 52) (v := ?_) (a' := ?_) #[true, true, false, false, false, false, false, false, false, false, false, false, false, false, false, false, false] rfl rfl (by kernel_rfl) (fun _ _ _ h => h) (Or.inl ⟨by rfl, ?_⟩) ?_ ?_
            rotate_left
            · intro w'
              go_simp
              with_reducible rfl
            rotate_left
            · simp only [Act.put, List.setIfInBounds_toArray, List.set_cons_zero, List.set_cons_succ, i64_w, i32_w]
              rfl
            refine pure_ (i := 2) (N := some 53) (v := ?_) (a' := ?_) #[true, true, true, false, false, false, false, false, false, false, false, false, false, false, false, false, false] rfl rfl (by kernel_rfl) (fun _ _ _ h => h) (Or.inl ⟨by rfl, ?_⟩) ?_ ?_
            rotate_left
            · intro w'
              go_simp
              with_reducible rfl
            rotate_left
            · simp only [Act.put, List.setIfInBounds_toArray, List.set_cons_zero, List.set_cons_succ, i64_w, i32_w]
              rfl
            refine pure_ (i := 3) (N := some 54) (v := ?_) (a' := ?_) #[true, true, true, true, false, false, false, false, false, false, false, false, false, false, false, false, false] rfl rfl (by kernel_rfl) (fun _ _ _ h => h) (Or.inl ⟨by rfl, ?_⟩) ?_ ?_
            rotate_left
            · intro w'
              go_simp
              with_reducible rfl
            rotate_left
            · simp only [Act.put, List.setIfInBounds_toArray, List.set_cons_zero, List.set_cons_succ, i64_w, i32_w]
              rfl
            refine pure_ (i := 5) (N := some 56) (v := ?_) (a' := ?_) #[true, true, true, true, false, true, false, false, false, false, false, false, false, false, false, false, false] rfl rfl (by kernel_rfl) (fun _ _ _ h => h) (Or.inl ⟨by rfl, ?_⟩) ?_ ?_
            rotate_left
            · intro w'
              go_simp
              with_reducible rfl
            rotate_left
            · simp only [Act.put, List.setIfInBounds_toArray, List.set_cons_zero, List.set_cons_succ, i64_w, i32_w]
              rfl
            refine pure_ (i := 6) (N := some 57) (v := ?_) (a' := ?_) #[true, true, true, true, false, true, true, false, false, false, false, false, false, false, false, false, false] rfl rfl (by kernel_rfl) (fun _ _ _ h => h) (Or.inl ⟨by rfl, ?_⟩) ?_ ?_
            rotate_left
            · intro w'
              go_simp
              with_reducible rfl
            rotate_left
            · simp only [Act.put, List.setIfInBounds_toArray, List.set_cons_zero, List.set_cons_succ, i64_w, i32_w]
              rfl
            refine pure_ (i := 7) (N := some 58) (v := ?_) (a' := ?_) #[true, true, true, true, false, true, true, true, false, false, false, false, false, false, false, false, false] rfl rfl (by kernel_rfl) (fun _ _ _ h => h) (Or.inl ⟨by rfl, ?_⟩) ?_ ?_
            rotate_left
            · intro w'
              go_simp
              with_reducible rfl
            rotate_left
            · simp only [Act.put, List.setIfInBounds_toArray, List.set_cons_zero, List.set_cons_succ, i64_w, i32_w]
              rfl
            refine one_ (i := 4) (N := some 55) #[true, true, true, true, true, true, true, true, false, false, false, false, false, false, false, false, false] rfl rfl (by kernel_rfl) (by decide) (fun K hK => ?_)
            refine goes_ Try.func12 (by kernel_rfl) rfl #[.pointer (some ⟨b, 0, none⟩)] (by rfl) rfl rfl (by simp only [List.map_toArray, List.map_cons, List.map_nil]; rfl) ?_
            with_reducible refine (R.out).mono ?_
            rintro e w9 ⟨A9, c9, rfl, m9⟩
            refine ⟨_, rfl, ?_⟩
            have BB := bytes_any m9.bsa (cutb.below m9.2.2)
            rw [show decide ((p ++ q).take k = (p ++ q).take k) = true by simp] at BB
            simp only [lk] at BB
            have HB9 := hid BB
            clear BB
            refine hK.out _ _ trivial (fun hHeld => ?_)
            clear hK K
            refine norm_ (a' := ?_) ?_ ?_
            rotate_left
            · show Act.put _ (some 55) _ = _
              simp only [Act.put, List.setIfInBounds_toArray, List.set_cons_zero, List.set_cons_succ, i64_w, i32_w]
              rfl
            refine one_ (i := 8) (N := some 59) #[true, true, true, true, true, true, true, true, true, false, false, false, false, false, false, false, false] rfl rfl (by kernel_rfl) (by decide) (fun K hK => ?_)
            refine goes_ Try.func17 (by kernel_rfl) rfl #[.slice A9 k c9, .slice A5 k c5] (by rfl) rfl rfl (by simp only [List.map_toArray, List.map_cons, List.map_nil]; rfl) ?_
            with_reducible refine (HB9.out).mono ?_
            rintro e w10 ⟨rfl, b10⟩
            refine ⟨_, rfl, ?_⟩
            have d10 := hid ((D8.out.below m9.2.2).below b10)
            refine hK.out _ _ trivial (fun hHeld => ?_)
            clear hK K
            refine norm_ (a' := ?_) ?_ ?_
            rotate_left
            · show Act.put _ (some 59) _ = _
              simp only [Act.put, List.setIfInBounds_toArray, List.set_cons_zero, List.set_cons_succ, i64_w, i32_w]
              rfl
            refine pure_ (i := 9) (N := some 60) (v := ?_) (a' := ?_) #[true, true, true, true, true, true, true, true, true, true, false, false, false, false, false, false, false] rfl rfl (by kernel_rfl) (fun _ _ _ h => h) (Or.inl ⟨by rfl, ?_⟩) ?_ ?_
            rotate_left
            · intro w'
              go_simp
              with_reducible rfl
            rotate_left
            · simp only [Act.put, List.setIfInBounds_toArray, List.set_cons_zero, List.set_cons_succ, i64_w, i32_w]
              rfl
            refine pure_ (i := 10) (N := some 61) (v := ?_) (a' := ?_) #[true, true, true, true, true, true, true, true, true, true, true, false, false, false, false, false, false] rfl rfl (by kernel_rfl) (fun _ _ _ h => h) (Or.inl ⟨by rfl, ?_⟩) ?_ ?_
            rotate_left
            · intro w'
              go_simp
              with_reducible rfl
            rotate_left
            · simp only [Act.put, List.setIfInBounds_toArray, List.set_cons_zero, List.set_cons_succ, i64_w, i32_w]
              rfl
            refine pure_ (i := 11) (N := some 62) (v := ?_) (a' := ?_) #[true, true, true, true, true, true, true, true, true, true, true, true, false, false, false, false, false] rfl rfl (by kernel_rfl) (fun _ _ _ h => h) (Or.inl ⟨by rfl, ?_⟩) ?_ ?_
            rotate_left
            · intro w'
              go_simp
              with_reducible rfl
            rotate_left
            · simp only [Act.put, List.setIfInBounds_toArray, List.set_cons_zero, List.set_cons_succ, i64_w, i32_w]
              rfl
            refine pure_ (i := 13) (N := some 64) (v := ?_) (a' := ?_) #[true, true, true, true, true, true, true, true, true, true, true, true, false, true, false, false, false] rfl rfl (by kernel_rfl) (fun _ _ _ h => h) (Or.inl ⟨by rfl, ?_⟩) ?_ ?_
            rotate_left
            · intro w'
              go_simp
              with_reducible rfl
            rotate_left
            · simp only [Act.put, List.setIfInBounds_toArray, List.set_cons_zero, List.set_cons_succ, i64_w, i32_w]
              rfl
            refine one_ (i := 12) (N := some 63) #[true, true, true, true, true, true, true, true, true, true, true, true, true, true, false, false, false] rfl rfl (by kernel_rfl) (by decide) (fun K hK => ?_)
            refine goes_ Try.func13 (by kernel_rfl) rfl #[.pointer (some ⟨b, 0, none⟩)] (by rfl) rfl rfl (by simp only [List.map_toArray, List.map_cons, List.map_nil]; rfl) ?_
            with_reducible refine ((safe_B d10.out)).mono ?_
            rintro e w11 ⟨rfl, rfl⟩
            refine ⟨_, rfl, ?_⟩
            refine hK.out _ _ trivial (fun hHeld => ?_)
            clear hK K
            refine norm_ (a' := ?_) ?_ ?_
            rotate_left
            · show Act.put _ (some 63) _ = _
              simp only [Act.put, List.setIfInBounds_toArray, List.set_cons_zero, List.set_cons_succ, i64_w, i32_w]
              rfl
            refine pure_ (i := 14) (N := some 65) (v := ?_) (a' := ?_) #[true, true, true, true, true, true, true, true, true, true, true, true, true, true, true, false, false] rfl rfl (by kernel_rfl) (fun _ _ _ h => h) (Or.inl ⟨by rfl, ?_⟩) ?_ ?_
            rotate_left
            · intro w'
              go_simp
              with_reducible rfl
            rotate_left
            · simp only [Act.put, List.setIfInBounds_toArray, List.set_cons_zero, List.set_cons_succ, i64_w, i32_w]
              rfl
            refine pure_ (i := 15) (N := some 66) (v := ?_) (a' := ?_) #[true, true, true, true, true, true, true, true, true, true, true, true, true, true, true, true, false] rfl rfl (by kernel_rfl) (fun _ _ _ h => h) (Or.inl ⟨by rfl, ?_⟩) ?_ ?_
            rotate_left
            · intro w'
              go_simp
              with_reducible rfl
            rotate_left
            · simp only [Act.put, List.setIfInBounds_toArray, List.set_cons_zero, List.set_cons_succ, i64_w, i32_w]
              rfl
            refine pure_ (i := 16) (N := some 8) (v := ?_) (a' := ?_) #[true, true, true, true, true, true, true, true, true, true, true, true, true, true, true, true, true] rfl rfl (by kernel_rfl) (fun _ _ _ h => h) (Or.inl ⟨by rfl, ?_⟩) ?_ ?_
            rotate_left
            · intro w'
              go_simp
              with_reducible rfl
            rotate_left
            · simp only [Act.put, List.setIfInBounds_toArray, List.set_cons_zero, List.set_cons_succ, i64_w, i32_w]
              rfl
            refine done_ (by kernel_rfl) ?_
            go_wp2
            go_ret
            exact ⟨rfl, below_then (below_then (show Below w.heap.size w w7.drew from b8.drew) m9.2.2) b10⟩
        · by_cases hg : ((p.length : Int) + q.length) < n
          · have EK := hid (show ((p.length : Int) + q.length) = (k : Int) by omega)
            go_upto_if 43 with fail
            go_cut [11] (fun u wx => u = .int .i64 (k : Int) ∧ w5 = wx)
            case first =>
              go_wp2_with fail
              go_meet
              exact ⟨congrArg (Value.int .i64) EK.out, rfl⟩
            case rest =>
              obtain ⟨rfl, rfl⟩ := hcut
              go_wp2_with fail
              refine HC.out.mono ?_
              rintro e w6 ⟨rfl, r6, d6, n6, k6⟩
              go_wp2_with fail
              refine (crash_any d6 (by omega) (by simp; omega)).mono ?_
              rintro e w7 ⟨rfl, r7, d7, n7, k7⟩
              rw [crash_same p q k hkl] at d7
              obtain ⟨d8, b8, y8⟩ := F.out r6 r7 w6 w7 n6 k6 d6 d7 n7 k7
              clear F HC n6 k6 d6 d7 n7 k7 HE5 HE6 d5 hl
              have lk : ((p ++ q).take k).length = k := by simp; omega
              have RR := read_B (show DiskB w7.drew w.heap.size b ⟨(p ++ q).take k, k, 0, false⟩ from d8) (by simp; omega)
              simp only [lk] at RR
              have R := hid RR
              have y8' : BSA w7.drew A5 c5 (p ++ q) := y8
              have cutb : BSA w7.drew A5 c5 ((p ++ q).take k) := ⟨by rw [lk]; omega, y8'.2.1, y8'.2.2.1, fun ad e j hj => by rw [List.getElem_take]; exact y8'.2.2.2 ad e j (by rw [lk] at hj; omega)⟩
              have hk5 : k ≤ c5 := by omega
              have D8 := hid (show DiskB w7.drew w.heap.size b ⟨(p ++ q).take k, k, 0, false⟩ from d8)
              clear RR y8 y8' d8
              go_wp2
              refine start_ (n := 17) (S := fun w' => True) (ds := []) #[false, false, false, false, false, false, false, false, false, false, false, false, false, false, false, false, false] (by kernel_rfl) rfl rfl trivial (fun hHeld => ?_)
              refine pure_ (i := 0) (N := some 51) (v := ?_) (a' := ?_) #[true, false, false, false, false, false, false, false, false, false, false, false, false, false, false, false, false] rfl rfl (by kernel_rfl) (fun _ _ _ h => h) (Or.inl ⟨by rfl, ?_⟩) ?_ ?_
              rotate_left
              · intro w'
                go_simp
                with_reducible rfl
              rotate_left
              · simp only [Act.put, List.setIfInBounds_toArray, List.set_cons_zero, List.set_cons_succ, i64_w, i32_w]
                rfl
              refine pure_ (i := 1) (N := some 52) (v := ?_) (a' := ?_) #[true, true, false, false, false, false, false, false, false, false, false, false, false, false, false, false, false] rfl rfl (by kernel_rfl) (fun _ _ _ h => h) (Or.inl ⟨by rfl, ?_⟩) ?_ ?_
              rotate_left
              · intro w'
                go_simp
                with_reducible rfl
              rotate_left
              · simp only [Act.put, List.setIfInBounds_toArray, List.set_cons_zero, List.set_cons_succ, i64_w, i32_w]
                rfl
              refine pure_ (i := 2) (N := some 53) (v := ?_) (a' := ?_) #[true, true, true, false, false, false, false, false, false, false, false, false, false, false, false, false, false] rfl rfl (by kernel_rfl) (fun _ _ _ h => h) (Or.inl ⟨by rfl, ?_⟩) ?_ ?_
              rotate_left
              · intro w'
                go_simp
                with_reducible rfl
              rotate_left
              · simp only [Act.put, List.setIfInBounds_toArray, List.set_cons_zero, List.set_cons_succ, i64_w, i32_w]
                rfl
              refine pure_ (i := 3) (N := some 54) (v := ?_) (a' := ?_) #[true, true, true, true, false, false, false, false, false, false, false, false, false, false, false, false, false] rfl rfl (by kernel_rfl) (fun _ _ _ h => h) (Or.inl ⟨by rfl, ?_⟩) ?_ ?_
              rotate_left
              · intro w'
                go_simp
                with_reducible rfl
              rotate_left
              · simp only [Act.put, List.setIfInBounds_toArray, List.set_cons_zero, List.set_cons_succ, i64_w, i32_w]
                rfl
              refine pure_ (i := 5) (N := some 56) (v := ?_) (a' := ?_) #[true, true, true, true, false, true, false, false, false, false, false, false, false, false, false, false, false] rfl rfl (by kernel_rfl) (fun _ _ _ h => h) (Or.inl ⟨by rfl, ?_⟩) ?_ ?_
              rotate_left
              · intro w'
                go_simp
                with_reducible rfl
              rotate_left
              · simp only [Act.put, List.setIfInBounds_toArray, List.set_cons_zero, List.set_cons_succ, i64_w, i32_w]
                rfl
              refine pure_ (i := 6) (N := some 57) (v := ?_) (a' := ?_) #[true, true, true, true, false, true, true, false, false, false, false, false, false, false, false, false, false] rfl rfl (by kernel_rfl) (fun _ _ _ h => h) (Or.inl ⟨by rfl, ?_⟩) ?_ ?_
              rotate_left
              · intro w'
                go_simp
                with_reducible rfl
              rotate_left
              · simp only [Act.put, List.setIfInBounds_toArray, List.set_cons_zero, List.set_cons_succ, i64_w, i32_w]
                rfl
              refine pure_ (i := 7) (N := some 58) (v := ?_) (a' := ?_) #[true, true, true, true, false, true, true, true, false, false, false, false, false, false, false, false, false] rfl rfl (by kernel_rfl) (fun _ _ _ h => h) (Or.inl ⟨by rfl, ?_⟩) ?_ ?_
              rotate_left
              · intro w'
                go_simp
                with_reducible rfl
              rotate_left
              · simp only [Act.put, List.setIfInBounds_toArray, List.set_cons_zero, List.set_cons_succ, i64_w, i32_w]
                rfl
              refine one_ (i := 4) (N := some 55) #[true, true, true, true, true, true, true, true, false, false, false, false, false, false, false, false, false] rfl rfl (by kernel_rfl) (by decide) (fun K hK => ?_)
              refine goes_ Try.func12 (by kernel_rfl) rfl #[.pointer (some ⟨b, 0, none⟩)] (by rfl) rfl rfl (by simp only [List.map_toArray, List.map_cons, List.map_nil]; rfl) ?_
              with_reducible refine (R.out).mono ?_
              rintro e w9 ⟨A9, c9, rfl, m9⟩
              refine ⟨_, rfl, ?_⟩
              have BB := bytes_any m9.bsa (cutb.below m9.2.2)
              rw [show decide ((p ++ q).take k = (p ++ q).take k) = true by simp] at BB
              simp only [lk] at BB
              have HB9 := hid BB
              clear BB
              refine hK.out _ _ trivial (fun hHeld => ?_)
              clear hK K
              refine norm_ (a' := ?_) ?_ ?_
              rotate_left
              · show Act.put _ (some 55) _ = _
                simp only [Act.put, List.setIfInBounds_toArray, List.set_cons_zero, List.set_cons_succ, i64_w, i32_w]
                rfl
              refine one_ (i := 8) (N := some 59) #[true, true, true, true, true, true, true, true, true, false, false, false, false, false, false, false, false] rfl rfl (by kernel_rfl) (by decide) (fun K hK => ?_)
              refine goes_ Try.func17 (by kernel_rfl) rfl #[.slice A9 k c9, .slice A5 k c5] (by rfl) rfl rfl (by simp only [List.map_toArray, List.map_cons, List.map_nil]; rfl) ?_
              with_reducible refine (HB9.out).mono ?_
              rintro e w10 ⟨rfl, b10⟩
              refine ⟨_, rfl, ?_⟩
              have d10 := hid ((D8.out.below m9.2.2).below b10)
              refine hK.out _ _ trivial (fun hHeld => ?_)
              clear hK K
              refine norm_ (a' := ?_) ?_ ?_
              rotate_left
              · show Act.put _ (some 59) _ = _
                simp only [Act.put, List.setIfInBounds_toArray, List.set_cons_zero, List.set_cons_succ, i64_w, i32_w]
                rfl
              refine pure_ (i := 9) (N := some 60) (v := ?_) (a' := ?_) #[true, true, true, true, true, true, true, true, true, true, false, false, false, false, false, false, false] rfl rfl (by kernel_rfl) (fun _ _ _ h => h) (Or.inl ⟨by rfl, ?_⟩) ?_ ?_
              rotate_left
              · intro w'
                go_simp
                with_reducible rfl
              rotate_left
              · simp only [Act.put, List.setIfInBounds_toArray, List.set_cons_zero, List.set_cons_succ, i64_w, i32_w]
                rfl
              refine pure_ (i := 10) (N := some 61) (v := ?_) (a' := ?_) #[true, true, true, true, true, true, true, true, true, true, true, false, false, false, false, false, false] rfl rfl (by kernel_rfl) (fun _ _ _ h => h) (Or.inl ⟨by rfl, ?_⟩) ?_ ?_
              rotate_left
              · intro w'
                go_simp
                with_reducible rfl
              rotate_left
              · simp only [Act.put, List.setIfInBounds_toArray, List.set_cons_zero, List.set_cons_succ, i64_w, i32_w]
                rfl
              refine pure_ (i := 11) (N := some 62) (v := ?_) (a' := ?_) #[true, true, true, true, true, true, true, true, true, true, true, true, false, false, false, false, false] rfl rfl (by kernel_rfl) (fun _ _ _ h => h) (Or.inl ⟨by rfl, ?_⟩) ?_ ?_
              rotate_left
              · intro w'
                go_simp
                with_reducible rfl
              rotate_left
              · simp only [Act.put, List.setIfInBounds_toArray, List.set_cons_zero, List.set_cons_succ, i64_w, i32_w]
                rfl
              refine pure_ (i := 13) (N := some 64) (v := ?_) (a' := ?_) #[true, true, true, true, true, true, true, true, true, true, true, true, false, true, false, false, false] rfl rfl (by kernel_rfl) (fun _ _ _ h => h) (Or.inl ⟨by rfl, ?_⟩) ?_ ?_
              rotate_left
              · intro w'
                go_simp
                with_reducible rfl
              rotate_left
              · simp only [Act.put, List.setIfInBounds_toArray, List.set_cons_zero, List.set_cons_succ, i64_w, i32_w]
                rfl
              refine one_ (i := 12) (N := some 63) #[true, true, true, true, true, true, true, true, true, true, true, true, true, true, false, false, false] rfl rfl (by kernel_rfl) (by decide) (fun K hK => ?_)
              refine goes_ Try.func13 (by kernel_rfl) rfl #[.pointer (some ⟨b, 0, none⟩)] (by rfl) rfl rfl (by simp only [List.map_toArray, List.map_cons, List.map_nil]; rfl) ?_
              with_reducible refine ((safe_B d10.out)).mono ?_
              rintro e w11 ⟨rfl, rfl⟩
              refine ⟨_, rfl, ?_⟩
              refine hK.out _ _ trivial (fun hHeld => ?_)
              clear hK K
              refine norm_ (a' := ?_) ?_ ?_
              rotate_left
              · show Act.put _ (some 63) _ = _
                simp only [Act.put, List.setIfInBounds_toArray, List.set_cons_zero, List.set_cons_succ, i64_w, i32_w]
                rfl
              refine pure_ (i := 14) (N := some 65) (v := ?_) (a' := ?_) #[true, true, true, true, true, true, true, true, true, true, true, true, true, true, true, false, false] rfl rfl (by kernel_rfl) (fun _ _ _ h => h) (Or.inl ⟨by rfl, ?_⟩) ?_ ?_
              rotate_left
              · intro w'
                go_simp
                with_reducible rfl
              rotate_left
              · simp only [Act.put, List.setIfInBounds_toArray, List.set_cons_zero, List.set_cons_succ, i64_w, i32_w]
                rfl
              refine pure_ (i := 15) (N := some 66) (v := ?_) (a' := ?_) #[true, true, true, true, true, true, true, true, true, true, true, true, true, true, true, true, false] rfl rfl (by kernel_rfl) (fun _ _ _ h => h) (Or.inl ⟨by rfl, ?_⟩) ?_ ?_
              rotate_left
              · intro w'
                go_simp
                with_reducible rfl
              rotate_left
              · simp only [Act.put, List.setIfInBounds_toArray, List.set_cons_zero, List.set_cons_succ, i64_w, i32_w]
                rfl
              refine pure_ (i := 16) (N := some 8) (v := ?_) (a' := ?_) #[true, true, true, true, true, true, true, true, true, true, true, true, true, true, true, true, true] rfl rfl (by kernel_rfl) (fun _ _ _ h => h) (Or.inl ⟨by rfl, ?_⟩) ?_ ?_
              rotate_left
              · intro w'
                go_simp
                with_reducible rfl
              rotate_left
              · simp only [Act.put, List.setIfInBounds_toArray, List.set_cons_zero, List.set_cons_succ, i64_w, i32_w]
                rfl
              refine done_ (by kernel_rfl) ?_
              go_wp2
              go_ret
              exact ⟨rfl, below_then (below_then (show Below w.heap.size w w7.drew from b8.drew) m9.2.2) b10⟩
          · have EK := hid (show n = (k : Int) by omega)
            go_upto_if 43 with fail
            go_cut [11] (fun u wx => u = .int .i64 (k : Int) ∧ w5 = wx)
            case first =>
              go_wp2_with fail
              go_meet
              exact ⟨congrArg (Value.int .i64) EK.out, rfl⟩
            case rest =>
              obtain ⟨rfl, rfl⟩ := hcut
              go_wp2_with fail
              refine HC.out.mono ?_
              rintro e w6 ⟨rfl, r6, d6, n6, k6⟩
              go_wp2_with fail
              refine (crash_any d6 (by omega) (by simp; omega)).mono ?_
              rintro e w7 ⟨rfl, r7, d7, n7, k7⟩
              rw [crash_same p q k hkl] at d7
              obtain ⟨d8, b8, y8⟩ := F.out r6 r7 w6 w7 n6 k6 d6 d7 n7 k7
              clear F HC n6 k6 d6 d7 n7 k7 HE5 HE6 d5 hl
              have lk : ((p ++ q).take k).length = k := by simp; omega
              have RR := read_B (show DiskB w7.drew w.heap.size b ⟨(p ++ q).take k, k, 0, false⟩ from d8) (by simp; omega)
              simp only [lk] at RR
              have R := hid RR
              have y8' : BSA w7.drew A5 c5 (p ++ q) := y8
              have cutb : BSA w7.drew A5 c5 ((p ++ q).take k) := ⟨by rw [lk]; omega, y8'.2.1, y8'.2.2.1, fun ad e j hj => by rw [List.getElem_take]; exact y8'.2.2.2 ad e j (by rw [lk] at hj; omega)⟩
              have hk5 : k ≤ c5 := by omega
              have D8 := hid (show DiskB w7.drew w.heap.size b ⟨(p ++ q).take k, k, 0, false⟩ from d8)
              clear RR y8 y8' d8
              go_wp2
              refine start_ (n := 17) (S := fun w' => True) (ds := []) #[false, false, false, false, false, false, false, false, false, false, false, false, false, false, false, false, false] (by kernel_rfl) rfl rfl trivial (fun hHeld => ?_)
              refine pure_ (i := 0) (N := some 51) (v := ?_) (a' := ?_) #[true, false, false, false, false, false, false, false, false, false, false, false, false, false, false, false, false] rfl rfl (by kernel_rfl) (fun _ _ _ h => h) (Or.inl ⟨by rfl, ?_⟩) ?_ ?_
              rotate_left
              · intro w'
                go_simp
                with_reducible rfl
              rotate_left
              · simp only [Act.put, List.setIfInBounds_toArray, List.set_cons_zero, List.set_cons_succ, i64_w, i32_w]
                rfl
              refine pure_ (i := 1) (N := some 52) (v := ?_) (a' := ?_) #[true, true, false, false, false, false, false, false, false, false, false, false, false, false, false, false, false] rfl rfl (by kernel_rfl) (fun _ _ _ h => h) (Or.inl ⟨by rfl, ?_⟩) ?_ ?_
              rotate_left
              · intro w'
                go_simp
                with_reducible rfl
              rotate_left
              · simp only [Act.put, List.setIfInBounds_toArray, List.set_cons_zero, List.set_cons_succ, i64_w, i32_w]
                rfl
              refine pure_ (i := 2) (N := some 53) (v := ?_) (a' := ?_) #[true, true, true, false, false, false, false, false, false, false, false, false, false, false, false, false, false] rfl rfl (by kernel_rfl) (fun _ _ _ h => h) (Or.inl ⟨by rfl, ?_⟩) ?_ ?_
              rotate_left
              · intro w'
                go_simp
                with_reducible rfl
              rotate_left
              · simp only [Act.put, List.setIfInBounds_toArray, List.set_cons_zero, List.set_cons_succ, i64_w, i32_w]
                rfl
              refine pure_ (i := 3) (N := some 54) (v := ?_) (a' := ?_) #[true, true, true, true, false, false, false, false, false, false, false, false, false, false, false, false, false] rfl rfl (by kernel_rfl) (fun _ _ _ h => h) (Or.inl ⟨by rfl, ?_⟩) ?_ ?_
              rotate_left
              · intro w'
                go_simp
                with_reducible rfl
              rotate_left
              · simp only [Act.put, List.setIfInBounds_toArray, List.set_cons_zero, List.set_cons_succ, i64_w, i32_w]
                rfl
              refine pure_ (i := 5) (N := some 56) (v := ?_) (a' := ?_) #[true, true, true, true, false, true, false, false, false, false, false, false, false, false, false, false, false] rfl rfl (by kernel_rfl) (fun _ _ _ h => h) (Or.inl ⟨by rfl, ?_⟩) ?_ ?_
              rotate_left
              · intro w'
                go_simp
                with_reducible rfl
              rotate_left
              · simp only [Act.put, List.setIfInBounds_toArray, List.set_cons_zero, List.set_cons_succ, i64_w, i32_w]
                rfl
              refine pure_ (i := 6) (N := some 57) (v := ?_) (a' := ?_) #[true, true, true, true, false, true, true, false, false, false, false, false, false, false, false, false, false] rfl rfl (by kernel_rfl) (fun _ _ _ h => h) (Or.inl ⟨by rfl, ?_⟩) ?_ ?_
              rotate_left
              · intro w'
                go_simp
                with_reducible rfl
              rotate_left
              · simp only [Act.put, List.setIfInBounds_toArray, List.set_cons_zero, List.set_cons_succ, i64_w, i32_w]
                rfl
              refine pure_ (i := 7) (N := some 58) (v := ?_) (a' := ?_) #[true, true, true, true, false, true, true, true, false, false, false, false, false, false, false, false, false] rfl rfl (by kernel_rfl) (fun _ _ _ h => h) (Or.inl ⟨by rfl, ?_⟩) ?_ ?_
              rotate_left
              · intro w'
                go_simp
                with_reducible rfl
              rotate_left
              · simp only [Act.put, List.setIfInBounds_toArray, List.set_cons_zero, List.set_cons_succ, i64_w, i32_w]
                rfl
              refine one_ (i := 4) (N := some 55) #[true, true, true, true, true, true, true, true, false, false, false, false, false, false, false, false, false] rfl rfl (by kernel_rfl) (by decide) (fun K hK => ?_)
              refine goes_ Try.func12 (by kernel_rfl) rfl #[.pointer (some ⟨b, 0, none⟩)] (by rfl) rfl rfl (by simp only [List.map_toArray, List.map_cons, List.map_nil]; rfl) ?_
              with_reducible refine (R.out).mono ?_
              rintro e w9 ⟨A9, c9, rfl, m9⟩
              refine ⟨_, rfl, ?_⟩
              have BB := bytes_any m9.bsa (cutb.below m9.2.2)
              rw [show decide ((p ++ q).take k = (p ++ q).take k) = true by simp] at BB
              simp only [lk] at BB
              have HB9 := hid BB
              clear BB
              refine hK.out _ _ trivial (fun hHeld => ?_)
              clear hK K
              refine norm_ (a' := ?_) ?_ ?_
              rotate_left
              · show Act.put _ (some 55) _ = _
                simp only [Act.put, List.setIfInBounds_toArray, List.set_cons_zero, List.set_cons_succ, i64_w, i32_w]
                rfl
              refine one_ (i := 8) (N := some 59) #[true, true, true, true, true, true, true, true, true, false, false, false, false, false, false, false, false] rfl rfl (by kernel_rfl) (by decide) (fun K hK => ?_)
              refine goes_ Try.func17 (by kernel_rfl) rfl #[.slice A9 k c9, .slice A5 k c5] (by rfl) rfl rfl (by simp only [List.map_toArray, List.map_cons, List.map_nil]; rfl) ?_
              with_reducible refine (HB9.out).mono ?_
              rintro e w10 ⟨rfl, b10⟩
              refine ⟨_, rfl, ?_⟩
              have d10 := hid ((D8.out.below m9.2.2).below b10)
              refine hK.out _ _ trivial (fun hHeld => ?_)
              clear hK K
              refine norm_ (a' := ?_) ?_ ?_
              rotate_left
              · show Act.put _ (some 59) _ = _
                simp only [Act.put, List.setIfInBounds_toArray, List.set_cons_zero, List.set_cons_succ, i64_w, i32_w]
                rfl
              refine pure_ (i := 9) (N := some 60) (v := ?_) (a' := ?_) #[true, true, true, true, true, true, true, true, true, true, false, false, false, false, false, false, false] rfl rfl (by kernel_rfl) (fun _ _ _ h => h) (Or.inl ⟨by rfl, ?_⟩) ?_ ?_
              rotate_left
              · intro w'
                go_simp
                with_reducible rfl
              rotate_left
              · simp only [Act.put, List.setIfInBounds_toArray, List.set_cons_zero, List.set_cons_succ, i64_w, i32_w]
                rfl
              refine pure_ (i := 10) (N := some 61) (v := ?_) (a' := ?_) #[true, true, true, true, true, true, true, true, true, true, true, false, false, false, false, false, false] rfl rfl (by kernel_rfl) (fun _ _ _ h => h) (Or.inl ⟨by rfl, ?_⟩) ?_ ?_
              rotate_left
              · intro w'
                go_simp
                with_reducible rfl
              rotate_left
              · simp only [Act.put, List.setIfInBounds_toArray, List.set_cons_zero, List.set_cons_succ, i64_w, i32_w]
                rfl
              refine pure_ (i := 11) (N := some 62) (v := ?_) (a' := ?_) #[true, true, true, true, true, true, true, true, true, true, true, true, false, false, false, false, false] rfl rfl (by kernel_rfl) (fun _ _ _ h => h) (Or.inl ⟨by rfl, ?_⟩) ?_ ?_
              rotate_left
              · intro w'
                go_simp
                with_reducible rfl
              rotate_left
              · simp only [Act.put, List.setIfInBounds_toArray, List.set_cons_zero, List.set_cons_succ, i64_w, i32_w]
                rfl
              refine pure_ (i := 13) (N := some 64) (v := ?_) (a' := ?_) #[true, true, true, true, true, true, true, true, true, true, true, true, false, true, false, false, false] rfl rfl (by kernel_rfl) (fun _ _ _ h => h) (Or.inl ⟨by rfl, ?_⟩) ?_ ?_
              rotate_left
              · intro w'
                go_simp
                with_reducible rfl
              rotate_left
              · simp only [Act.put, List.setIfInBounds_toArray, List.set_cons_zero, List.set_cons_succ, i64_w, i32_w]
                rfl
              refine one_ (i := 12) (N := some 63) #[true, true, true, true, true, true, true, true, true, true, true, true, true, true, false, false, false] rfl rfl (by kernel_rfl) (by decide) (fun K hK => ?_)
              refine goes_ Try.func13 (by kernel_rfl) rfl #[.pointer (some ⟨b, 0, none⟩)] (by rfl) rfl rfl (by simp only [List.map_toArray, List.map_cons, List.map_nil]; rfl) ?_
              with_reducible refine ((safe_B d10.out)).mono ?_
              rintro e w11 ⟨rfl, rfl⟩
              refine ⟨_, rfl, ?_⟩
              refine hK.out _ _ trivial (fun hHeld => ?_)
              clear hK K
              refine norm_ (a' := ?_) ?_ ?_
              rotate_left
              · show Act.put _ (some 63) _ = _
                simp only [Act.put, List.setIfInBounds_toArray, List.set_cons_zero, List.set_cons_succ, i64_w, i32_w]
                rfl
              refine pure_ (i := 14) (N := some 65) (v := ?_) (a' := ?_) #[true, true, true, true, true, true, true, true, true, true, true, true, true, true, true, false, false] rfl rfl (by kernel_rfl) (fun _ _ _ h => h) (Or.inl ⟨by rfl, ?_⟩) ?_ ?_
              rotate_left
              · intro w'
                go_simp
                with_reducible rfl
              rotate_left
              · simp only [Act.put, List.setIfInBounds_toArray, List.set_cons_zero, List.set_cons_succ, i64_w, i32_w]
                rfl
              refine pure_ (i := 15) (N := some 66) (v := ?_) (a' := ?_) #[true, true, true, true, true, true, true, true, true, true, true, true, true, true, true, true, false] rfl rfl (by kernel_rfl) (fun _ _ _ h => h) (Or.inl ⟨by rfl, ?_⟩) ?_ ?_
              rotate_left
              · intro w'
                go_simp
                with_reducible rfl
              rotate_left
              · simp only [Act.put, List.setIfInBounds_toArray, List.set_cons_zero, List.set_cons_succ, i64_w, i32_w]
                rfl
              refine pure_ (i := 16) (N := some 8) (v := ?_) (a' := ?_) #[true, true, true, true, true, true, true, true, true, true, true, true, true, true, true, true, true] rfl rfl (by kernel_rfl) (fun _ _ _ h => h) (Or.inl ⟨by rfl, ?_⟩) ?_ ?_
              rotate_left
              · intro w'
                go_simp
                with_reducible rfl
              rotate_left
              · simp only [Act.put, List.setIfInBounds_toArray, List.set_cons_zero, List.set_cons_succ, i64_w, i32_w]
                rfl
              refine done_ (by kernel_rfl) ?_
              go_wp2
              go_ret
              exact ⟨rfl, below_then (below_then (show Below w.heap.size w w7.drew from b8.drew) m9.2.2) b10⟩
end Go.Proofs.Ytlfimleciemobaa
