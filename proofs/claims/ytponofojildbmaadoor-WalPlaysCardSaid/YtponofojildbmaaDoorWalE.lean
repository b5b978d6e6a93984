/- The walks of what the laws of layer 8 share: same, small, all, both. -/
import Derived.Test.YtponofojildbmaaDoorWalD
set_option linter.unusedVariables false
set_option linter.unusedSimpArgs false
namespace Go.Proofs.YtponofojildbmaaDoor
open Go.RowKit PrintLast

def texts (ps : List Part) : List (List UInt8) := ps.map (·.2.2)
theorem texts_length (ps : List Part) : (texts ps).length = ps.length := by simp [texts]
theorem texts_get {ps : List Part} {k : Nat} (h : k < ps.length) : (texts ps)[k]'(by rw [texts_length]; exact h) = ps[k].2.2 := by simp [texts]
theorem PartsAt.take {w : World} {A : Option Addr} {ps : List Part} (h : PartsAt w A ps) (k : Nat) : PartsAt w A (ps.take k) :=
  ⟨fun e => by rw [h.1 e]; simp, fun ad e j hj => by
    have hj' : j < ps.length := by rw [List.length_take] at hj; omega
    rw [List.getElem_take]
    exact h.2 ad e j hj'⟩

set_option maxRecDepth 100000 in
set_option maxHeartbeats 3200000 in
theorem same_any {w : World} {A B : Option Addr} {c d : Nat} {ps qs : List Part} (h1 : PartsAt w A ps) (h2 : PartsAt w B qs) (hb : ps.length ≤ 1000000000) (hb2 : qs.length ≤ 1000000000) :
    Calls Tryd.prog 17 #[.slice A ps.length c, .slice B qs.length d] w fun e w' => e = .returned (.bool (decide (texts ps = texts qs))) ∧ Below w.heap.size w w' := by
  by_cases hlen : ps.length = qs.length
  · obtain ⟨n, hn⟩ : ∃ n, n = ps.length := ⟨_, rfl⟩
    have hn2 : n = qs.length := by omega
    have HN := hid (And.intro hn hn2)
    rw [← hn2, ← hn]
    rw [← hn] at hb
    have t0 : ((n : Int) != (n : Int)) = false := by simp
    have H1 := hid h1
    have H2 := hid h2
    have B0 := Below.refl w.heap.size w
    have E0 : Hid ((texts ps).take 0 = (texts qs).take 0) := hid rfl
    clear h1 h2 hn hn2 hlen hb2
    go_enter Tryd.func17, Tryd.ntmps17
    go_wp2
    go_loopw [5] (fun i wr => ∃ k : Nat, k ≤ n ∧ i = .int .i64 k ∧ Hid ((texts ps).take k = (texts qs).take k) ∧ Below w.heap.size w wr) (fun i _ => n - (intOf i).toNat)
    case atStart => exact ⟨0, Nat.zero_le _, rfl, E0, B0⟩
    case round =>
      clear B0 E0
      obtain ⟨k, hk, rfl, hE, hB⟩ := hrel
      by_cases hlt : k < n
      · have t1 : decide ((k : Int) < (n : Int)) = true := by simp; omega
        have hk1 : k < ps.length := by rw [← HN.out.1]; exact hlt
        have hk2 : k < qs.length := by rw [← HN.out.2]; exact hlt
        obtain ⟨g, o, rfl, c1, q1⟩ := H1.out.at_ k hk1
        obtain ⟨g', o', rfl, c2, q2⟩ := H2.out.at_ k hk2
        have tk1 := texts_get hk1
        have tk2 := texts_get hk2
        have hT1 : k < (texts ps).length := by rw [texts_length]; exact hk1
        have hT2 : k < (texts qs).length := by rw [texts_length]; exact hk2
        have s1 := List.take_succ_eq_append_getElem hT1
        have s2 := List.take_succ_eq_append_getElem hT2
        rw [tk1] at s1
        rw [tk2] at s2
        unfold partV at c1 c2
        obtain ⟨⟨Ax, cx, x⟩, hx⟩ : ∃ x : Part, x = ps[k] := ⟨_, rfl⟩
        obtain ⟨⟨Ay, cy, y⟩, hy⟩ : ∃ x : Part, x = qs[k] := ⟨_, rfl⟩
        rw [← hx] at c1 q1 s1 tk1
        rw [← hy] at c2 q2 s2 tk2
        have c1' := below_cell hB c1
        have c2' := below_cell hB c2
        have q1' := q1.below hB
        have q2' := q2.below hB
        have S := hid (And.intro s1 s2)
        have TK := hid (And.intro tk1 tk2)
        have pk : ((k : Int) < (n : Int)) = True := eq_true (Int.ofNat_lt.2 hlt)
        clear c1 c2 q1 q2 s1 s2 hx hy tk1 tk2
        go_wp2
        refine start_ (n := 10) (S := fun w' => w'.cell? ⟨g, o + k, none⟩ = some (.slice Ax x.length cx) ∧ w'.cell? ⟨g', o' + k, none⟩ = some (.slice Ay y.length cy) ∧ BSA w' Ax cx x ∧ BSA w' Ay cy y ∧ Below w.heap.size w w') (ds := []) #[false, false, false, false, false, false, false, false, false, false] (by kernel_rfl) rfl rfl ⟨c1', c2', q1', q2', hB.drew⟩ (fun hHeld => ?_)
        refine pure_ (i := 0) (N := some 17) (v := ?_) (a' := ?_) #[true, false, false, false, false, false, false, false, false, false] rfl rfl (by kernel_rfl) (fun _ _ _ h => h) (Or.inl ⟨by rfl, ?_⟩) ?_ ?_
        rotate_left
        · intro w'
          go_simp
          with_reducible rfl
        rotate_left
        · simp only [Act.put, List.setIfInBounds_toArray, List.set_cons_zero, List.set_cons_succ, i64_w, i32_w]
          rfl
        refine pure_ (i := 1) (N := some 18) (v := ?_) (a' := ?_) #[true, true, false, false, false, false, false, false, false, false] rfl rfl (by kernel_rfl) (fun _ _ _ h => h) (Or.inl ⟨by rfl, ?_⟩) ?_ ?_
        rotate_left
        · intro w'
          go_simp
          with_reducible rfl
        rotate_left
        · simp only [Act.put, List.setIfInBounds_toArray, List.set_cons_zero, List.set_cons_succ, i64_w, i32_w]
          rfl
        refine pure_ (i := 2) (N := some 19) (v := ?_) (a' := ?_) #[true, true, true, false, false, false, false, false, false, false] rfl rfl (by kernel_rfl) (fun _ _ _ h => h) (Or.inl ⟨by rfl, ?_⟩) ?_ ?_
        rotate_left
        · intro w'
          go_simp
          with_reducible rfl
        rotate_left
        · simp only [Act.put, List.setIfInBounds_toArray, List.set_cons_zero, List.set_cons_succ, i64_w, i32_w]
          rfl
        refine pure_ (i := 4) (N := some 21) (v := ?_) (a' := ?_) #[true, true, true, false, true, false, false, false, false, false] rfl rfl (by kernel_rfl) (fun _ _ _ h => h) (Or.inl ⟨by rfl, ?_⟩) ?_ ?_
        rotate_left
        · intro w'
          go_simp
          with_reducible rfl
        rotate_left
        · simp only [Act.put, List.setIfInBounds_toArray, List.set_cons_zero, List.set_cons_succ, i64_w, i32_w]
          rfl
        refine pure_ (i := 5) (N := some 22) (v := ?_) (a' := ?_) #[true, true, true, false, true, true, false, false, false, false] rfl rfl (by kernel_rfl) (fun _ _ _ h => h) (Or.inl ⟨by rfl, ?_⟩) ?_ ?_
        rotate_left
        · intro w'
          go_simp
          with_reducible rfl
        rotate_left
        · simp only [Act.put, List.setIfInBounds_toArray, List.set_cons_zero, List.set_cons_succ, i64_w, i32_w]
          rfl
        refine pure_ (i := 6) (N := some 23) (v := ?_) (a' := ?_) #[true, true, true, false, true, true, true, false, false, false] rfl rfl (by kernel_rfl) (fun _ _ _ h => h) (Or.inl ⟨by rfl, ?_⟩) ?_ ?_
        rotate_left
        · intro w'
          go_simp
          with_reducible rfl
        rotate_left
        · simp only [Act.put, List.setIfInBounds_toArray, List.set_cons_zero, List.set_cons_succ, i64_w, i32_w]
          rfl
        refine take_ (i := 3) (N := some 20) (v := ?_) (a' := ?_) #[true, true, true, true, true, true, true, false, false, false] rfl rfl (by kernel_rfl) (fun _ _ _ h => h) (Or.inl ⟨by rfl, ?_⟩) hHeld ?_ ?_
        rotate_left
        · rintro w' ⟨s0, s1, s2, s3, s4⟩
          go_simp
          with_reducible rfl
        rotate_left
        · simp only [Act.put, List.setIfInBounds_toArray, List.set_cons_zero, List.set_cons_succ, i64_w, i32_w]
          rfl
        refine take_ (i := 7) (N := some 24) (v := ?_) (a' := ?_) #[true, true, true, true, true, true, true, true, false, false] rfl rfl (by kernel_rfl) (fun _ _ _ h => h) (Or.inl ⟨by rfl, ?_⟩) hHeld ?_ ?_
        rotate_left
        · rintro w' ⟨s0, s1, s2, s3, s4⟩
          go_simp
          with_reducible rfl
        rotate_left
        · simp only [Act.put, List.setIfInBounds_toArray, List.set_cons_zero, List.set_cons_succ, i64_w, i32_w]
          rfl
        refine one_ (i := 8) (N := some 25) #[true, true, true, true, true, true, true, true, true, false] rfl rfl (by kernel_rfl) (by decide) (fun K hK => ?_)
        refine goes_ Tryd.func15 (by kernel_rfl) rfl #[.slice Ax x.length cx, .slice Ay y.length cy] (by rfl) rfl rfl (by simp only [List.map_toArray, List.map_cons, List.map_nil]; rfl) ?_
        with_reducible refine ((bytes_any hHeld.2.2.1 hHeld.2.2.2.1)).mono ?_
        rintro e' w1 ⟨rfl, b1⟩
        refine ⟨_, rfl, ?_⟩
        have B1 := hHeld.2.2.2.2.trans (b1.mono hHeld.2.2.2.2.size)
        refine hK.out _ _ ⟨(below_cell b1 hHeld.1), (below_cell b1 hHeld.2.1), (hHeld.2.2.1.below b1), (hHeld.2.2.2.1.below b1), B1⟩ (fun hHeld => ?_)
        clear hK K
        refine norm_ (a' := ?_) ?_ ?_
        rotate_left
        · show Act.put _ (some 25) _ = _
          simp only [Act.put, List.setIfInBounds_toArray, List.set_cons_zero, List.set_cons_succ, i64_w, i32_w]
          rfl
        refine pure_ (i := 9) (N := some 26) (v := ?_) (a' := ?_) #[true, true, true, true, true, true, true, true, true, true] rfl rfl (by kernel_rfl) (fun _ _ _ h => h) (Or.inl ⟨by rfl, ?_⟩) ?_ ?_
        rotate_left
        · intro w'
          go_simp
          with_reducible rfl
        rotate_left
        · simp only [Act.put, List.setIfInBounds_toArray, List.set_cons_zero, List.set_cons_succ, i64_w, i32_w]
          rfl
        refine done_ (by kernel_rfl) ?_
        clear c1' c2' q1' q2' hB pk
        by_cases hxy : x = y
        · have hd : decide (x = y) = true := by simp [hxy]
          rw [hd]
          have hE' : Hid ((texts ps).take (k + 1) = (texts qs).take (k + 1)) := hid (by rw [S.out.1, S.out.2, hE.out, hxy])
          clear hd hxy
          go_wp2
          go_roundw
          case rel => exact ⟨k + 1, hlt, by go_num, hE', B1⟩
          case measure => simp [intOf]; omega
        · have hd : decide (x = y) = false := by simp [hxy]
          rw [hd]
          have hf : Hid (decide (texts ps = texts qs) = false) := hid (by
            rw [decide_eq_false_iff_not]
            intro e
            apply hxy
            rw [← TK.out.1, ← TK.out.2]
            simp only [e])
          clear hd hxy
          go_wp2
          go_ret
          exact ⟨by rw [hf.out]; rfl, B1⟩
      · obtain rfl : k = n := by omega
        have t1 : decide ((k : Int) < (k : Int)) = false := by simp
        have hE' : Hid (decide (texts ps = texts qs) = true) := hid (by
          rw [decide_eq_true_iff]
          have := hE.out
          rwa [List.take_of_length_le (by rw [texts_length]; exact Nat.le_of_eq HN.out.1.symm), List.take_of_length_le (by rw [texts_length]; exact Nat.le_of_eq HN.out.2.symm)] at this)
        clear hE
        go_wp2
        go_ret
        exact ⟨by rw [hE'.out]; rfl, hB⟩
  · have t0 : ((ps.length : Int) != (qs.length : Int)) = true := by rw [bne_iff_ne]; omega
    have hf : Hid (decide (texts ps = texts qs) = false) := hid (by
      rw [decide_eq_false_iff_not]
      intro e
      exact hlen (by rw [← texts_length ps, e, texts_length]))
    have B0 := hid (Below.refl w.heap.size w)
    clear h1 h2 hlen
    go_enter Tryd.func17, Tryd.ntmps17
    go_wp2
    go_ret
    exact ⟨by rw [hf.out]; rfl, B0.out⟩

def smallB (l : List (List UInt8)) : Prop := (∀ x ∈ l, x.length ≤ 60) ∧ l.length ≤ 20
instance (l : List (List UInt8)) : Decidable (smallB l) := by unfold smallB; infer_instance

set_option maxRecDepth 100000 in
set_option maxHeartbeats 3200000 in
theorem small_any {w : World} {A : Option Addr} {c : Nat} {ps : List Part} (h1 : PartsAt w A ps) (hc : ps.length ≤ c ∧ c ≤ maxLen) :
    Calls Tryd.prog 18 #[.slice A ps.length c] w fun e w' => e = .returned (.bool (decide (smallB (texts ps)))) ∧ w = w' := by
  obtain ⟨n, hn⟩ : ∃ n, n = ps.length := ⟨_, rfl⟩
  have HN := hid hn
  have hb : n ≤ 9223372036854775807 := by have := hc.1; have := hc.2; unfold maxLen at this; omega
  rw [← hn]
  have H1 := hid h1
  have E0 : Hid (∀ x ∈ (texts ps).take 0, x.length ≤ 60) := hid (by simp)
  clear h1 hn hc
  go_enter Tryd.func18, Tryd.ntmps18
  go_wp2
  go_loopw [3] (fun i wr => ∃ k : Nat, k ≤ n ∧ i = .int .i64 k ∧ Hid (∀ x ∈ (texts ps).take k, x.length ≤ 60) ∧ w = wr) (fun i _ => n - (intOf i).toNat)
  case atStart => exact ⟨0, Nat.zero_le _, rfl, E0, rfl⟩
  case round =>
    clear E0
    obtain ⟨k, hk, rfl, hE, rfl⟩ := hrel
    by_cases hlt : k < n
    · have t1 : decide ((k : Int) < (n : Int)) = true := by simp; omega
      have hk1 : k < ps.length := by rw [← HN.out]; exact hlt
      obtain ⟨g, o, rfl, c1, q1⟩ := H1.out.at_ k hk1
      have hT1 : k < (texts ps).length := by rw [texts_length]; exact hk1
      have s1 := List.take_succ_eq_append_getElem hT1
      rw [texts_get hk1] at s1
      unfold partV at c1
      have hm : ps[k].2.2 ∈ texts ps := by rw [← texts_get hk1]; exact List.getElem_mem _
      obtain ⟨⟨Ax, cx, x⟩, hx⟩ : ∃ x : Part, x = ps[k] := ⟨_, rfl⟩
      rw [← hx] at c1 s1 hm
      by_cases hl : 60 < x.length
      · have t2 : decide ((60 : Int) < (x.length : Int)) = true := by simp; omega
        have hf : Hid (decide (smallB (texts ps)) = false) := hid (by
          rw [decide_eq_false_iff_not]
          intro e
          have h60 : x.length ≤ 60 := e.1 _ hm
          omega)
        clear hx q1 s1 hm hE
        go_wp2
        go_ret
        exact ⟨by rw [hf.out]; rfl, rfl⟩
      · have t2 : decide ((60 : Int) < (x.length : Int)) = false := by simp; omega
        have hE' : Hid (∀ x ∈ (texts ps).take (k + 1), x.length ≤ 60) := hid (by
          intro z hz
          rw [s1] at hz
          simp only [List.mem_append, List.mem_singleton] at hz
          rcases hz with hz | rfl
          · exact hE.out z hz
          · show z.length ≤ 60; omega)
        clear hx q1 s1 hm hE
        go_wp2
        go_roundw
        case rel => exact ⟨k + 1, hlt, by go_num, hE', trivial⟩
        case measure => simp [intOf]; omega
    · obtain rfl : k = n := by omega
      have t1 : decide ((k : Int) < (k : Int)) = false := by simp
      have e1 : decide ((k : Int) ≤ 20) = decide (smallB (texts ps)) := by
        rw [decide_eq_decide]
        constructor
        · intro h
          refine ⟨fun z hz => hE.out z ?_, by rw [texts_length, ← HN.out]; omega⟩
          rwa [List.take_of_length_le (by rw [texts_length]; exact Nat.le_of_eq HN.out.symm)]
        · intro h
          have := h.2
          rw [texts_length, ← HN.out] at this
          omega
      have E1 := hid e1
      clear hE e1
      go_wp2
      go_ret
      exact ⟨by rw [← E1.out]; rfl, rfl⟩

theorem allB_take (l : List (List UInt8)) (k : Nat) (h : k < l.length) : allB (l.take (k + 1)) = allB (l.take k) ++ frameB l[k] := by
  unfold allB
  rw [List.take_succ_eq_append_getElem h, List.flatMap_append]
  simp
theorem allB_le (l : List (List UInt8)) (k : Nat) : (allB (l.take k)).length ≤ (allB l).length := by
  have : allB l = allB (l.take k) ++ allB (l.drop k) := by
    unfold allB
    rw [← List.flatMap_append, List.take_append_drop]
  rw [this, List.length_append]
  omega

set_option maxRecDepth 100000 in
set_option maxHeartbeats 3200000 in
theorem all_any {w : World} {A : Option Addr} {c : Nat} {ps : List Part} (h1 : PartsAt w A ps) (hs : ∀ x ∈ texts ps, x.length ≤ 1000000) (hb : (allB (texts ps)).length ≤ 10000000) (hps : ps.length ≤ 1000000) :
    Calls Tryd.prog 19 #[.slice A ps.length c] w (Gave w (allB (texts ps))) := by
  obtain ⟨n, hn⟩ : ∃ n, n = ps.length := ⟨_, rfl⟩
  have HN := hid hn
  rw [← hn] at hps ⊢
  have H1 := hid h1
  have HS := hid hs
  have HB := hid hb
  have P0 : ∃ (R : Option Addr) (L c' : Nat), Value.slice none 0 0 = .slice R L c' ∧ Hid (L = (allB ((texts ps).take 0)).length) ∧ Row w w.heap.size R c' (allB ((texts ps).take 0)) := ⟨none, 0, 0, rfl, hid rfl, Row.nil _ _⟩
  have B0 := Below.refl w.heap.size w
  clear h1 hn hs hb
  go_enter Tryd.func19, Tryd.ntmps19
  go_wp2
  go_loopw [3, 4] (fun v i wr => ∃ k : Nat, k ≤ n ∧ i = .int .i64 k ∧ (∃ (R : Option Addr) (L c' : Nat), v = .slice R L c' ∧ Hid (L = (allB ((texts ps).take k)).length) ∧ Row wr w.heap.size R c' (allB ((texts ps).take k))) ∧ Below w.heap.size w wr) (fun _ i _ => n - (intOf i).toNat)
  case atStart => exact ⟨0, Nat.zero_le _, rfl, P0, B0⟩
  case round =>
    clear P0 B0
    obtain ⟨k, hk, rfl, ⟨R, L, c', rfl, hL, hR⟩, hB⟩ := hrel
    by_cases hlt : k < n
    · have t1 : decide ((k : Int) < (n : Int)) = true := by simp; omega
      have hk1 : k < ps.length := by rw [← HN.out]; exact hlt
      obtain ⟨g, o, rfl, c1, q1⟩ := H1.out.at_ k hk1
      have hT1 : k < (texts ps).length := by rw [texts_length]; exact hk1
      have s1 := allB_take _ k hT1
      rw [texts_get hk1] at s1
      have hle := allB_le (texts ps) (k + 1)
      unfold partV at c1
      have hm : ps[k].2.2.length ≤ 1000000 := HS.out _ (by rw [← texts_get hk1]; exact List.getElem_mem _)
      obtain ⟨⟨Ax, cx, x⟩, hx⟩ : ∃ x : Part, x = ps[k] := ⟨_, rfl⟩
      rw [← hx] at c1 s1 hm q1
      replace c1 := below_cell hB c1
      replace q1 := q1.below hB
      have sB := hB.size
      have H := hid (rframe_any q1 (by have h6 : x.length ≤ 1000000 := hm; show x.length ≤ 100000000; omega))
      have S1 := hid s1
      have HLE := hid hle
      clear hx q1 s1 hle
      go_wp2_with fail
      refine H.out.mono ?_
      rintro e w1 ⟨A1, c2, rfl, r1, b1⟩
      have B1 := hB.trans (b1.mono sB)
      have H := hid (join_gave hL.out.symm rfl S1.out.symm (hR.bsa.below b1) r1.bsa (by have := HLE.out; have := HB.out; omega))
      have sB1 : w.heap.size ≤ w1.heap.size := B1.size
      clear hR r1 b1 hB
      go_wp2_with fail
      refine H.out.mono ?_
      rintro e w2 ⟨A2, c3, rfl, r2, b2⟩
      have B2 := B1.trans (b2.mono sB1)
      have r2' := r2.lower sB1
      obtain ⟨L2, hL2⟩ : ∃ L2, Hid (L2 = (allB ((texts ps).take (k + 1))).length) := ⟨_, hid rfl⟩
      rw [← hL2.out]
      clear r2 b2 B1 H
      go_wp2
      go_roundw
      case rel => exact ⟨k + 1, hlt, by go_num, ⟨A2, L2, c3, rfl, hL2, r2'⟩, B2⟩
      case measure => simp [intOf]; omega
    · obtain rfl : k = n := by omega
      have t1 : decide ((k : Int) < (k : Int)) = false := by simp
      have e1 : (texts ps).take k = texts ps := List.take_of_length_le (by rw [texts_length]; exact Nat.le_of_eq HN.out.symm)
      rw [e1] at hR
      have hL' : Hid (L = (allB (texts ps)).length) := hid (by rw [hL.out, e1])
      clear e1 hL
      go_wp2
      go_ret
      exact ⟨R, c', by rw [← hL'.out]; rfl, hR, hB⟩
end Go.Proofs.YtponofojildbmaaDoor
