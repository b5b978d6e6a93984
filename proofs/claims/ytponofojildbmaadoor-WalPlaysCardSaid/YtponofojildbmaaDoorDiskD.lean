/- The walks of package disk: Crash, and Append, Sync, Cut through their closures. -/
import Derived.Test.YtponofojildbmaaDoorDiskC
set_option linter.unusedVariables false
set_option linter.unusedSimpArgs false
namespace Go.Proofs.YtponofojildbmaaDoor
open Go.RowKit PrintLast

/-- Does it do the next call? -/
def DS.ok (s : DS) : Bool := !(s.fails && s.calls == 0)
/-- Behind a call that it does. -/
def DS.called (s : DS) : DS := { s with calls := if s.fails then s.calls - 1 else s.calls }

theorem call_yes {w : World} {b : Nat} {r : Option Nat} {s : DS} (h : DiskAt w b r s) (hy : s.ok = true) :
    Calls Tryd.prog 61 #[.pointer (some ⟨b, 0, none⟩)] w fun e w' => e = .returned (.bool true) ∧ DiskAt w' b r s.called ∧ Keeps (fun k => k = b) w w' := by
  obtain ⟨p, safe, calls, fails⟩ := s
  obtain ⟨A, c, g1, g2, g3, g4⟩ := h.set
  obtain ⟨_, _, _, _, _, _, g5, _⟩ := id h
  cases fails with
  | false => exact (call_plain g1).mono fun e w' ⟨he, hw⟩ => by subst hw; exact ⟨he, h, Keeps.refl _ _⟩
  | true =>
    cases calls with
    | zero => simp [DS.ok] at hy
    | succ n => exact (call_count g1 g5).mono fun e w' ⟨he, hw⟩ => by subst hw; exact ⟨he, g4 n (by simp at g5; omega)⟩

theorem call_nay {w : World} {b : Nat} {r : Option Nat} {s : DS} (h : DiskAt w b r s) (hn : s.ok = false) :
    Calls Tryd.prog 61 #[.pointer (some ⟨b, 0, none⟩)] w fun e w' => e = .returned (.bool false) ∧ w = w' := by
  obtain ⟨p, safe, calls, fails⟩ := s
  obtain ⟨A, c, g1, g2, g3, g4⟩ := h.set
  simp [DS.ok] at hn
  obtain ⟨rfl, rfl⟩ := hn
  exact call_no g1

theorem DiskAt.lt {w : World} {b : Nat} {r : Option Nat} {s : DS} (h : DiskAt w b r s) : b < w.heap.size ∧ ∀ k, r = some k → k < w.heap.size := by
  obtain ⟨A, c, g1, g2, g3, _⟩ := h
  exact ⟨lt_of_block g1, fun k hk => by obtain ⟨cur, hc⟩ := own_block g2 (g3.trans hk); exact lt_of_block hc⟩

set_option maxHeartbeats 400000 in
theorem append_yes {w : World} {b : Nat} {r : Option Nat} {s : DS} {A2 : Option Addr} {c2 : Nat} {q : List UInt8} (h : DiskAt w b r s) (hq : BSA w A2 c2 q) (hbig : s.p.length + q.length ≤ 140737488355328) (hy : s.ok = true) :
    Calls Tryd.prog 43 #[.pointer (some ⟨b, 0, none⟩), .slice A2 q.length c2] w fun e w' => e = .returned (.int .i64 0) ∧ ∃ r', DiskAt w' b r' { s.called with p := s.p ++ q } ∧ (r' = r ∨ ∃ k, r' = some k ∧ w.heap.size ≤ k) ∧ Keeps (fun k => k = b ∨ r = some k) w w' := by
  obtain ⟨hbl, hrl⟩ := h.lt
  have hW : DiskAt ((w.alloc (.cells #[.pointer (some ⟨b, 0, none⟩)] 36)).alloc (.cells #[.slice A2 q.length c2] 22)) b r s := h.keeps (S := fun _ => False) (((Keeps.refl _ w).alloc _).alloc _) (fun e => e) (fun _ _ e => e)
  have hB0 := heap_alloc2_old w (.cells #[.pointer (some ⟨b, 0, none⟩)] 36) (.cells #[.slice A2 q.length c2] 22)
  have hB1 := heap_alloc2_new w (.cells #[.pointer (some ⟨b, 0, none⟩)] 36) (.cells #[.slice A2 q.length c2] 22)
  have hq1 := hq.below (below_alloc (below_alloc (Below.refl _ w) (.cells #[.pointer (some ⟨b, 0, none⟩)] 36)) (.cells #[.slice A2 q.length c2] 22))
  have hq' : ∀ ad, A2 = some ad → 0 < q.length → ¬ ad.block = b := by
    intro ad e hl eb
    obtain ⟨A, c, g1, _⟩ := h
    have h0 := hq.2.2.2 ad e 0 hl
    rw [show ad.add 0 = ad from rfl] at h0
    obtain ⟨bb, off, sp⟩ := ad
    subst eb
    simp only [World.cell?, g1] at h0
    split at h0
    · cases h0
    · match off, h0 with
      | 0, h0 => simp [dcells] at h0
      | 1, h0 => simp [dcells] at h0
      | 2, h0 => simp [dcells] at h0
      | 3, h0 => simp [dcells] at h0
      | n + 4, h0 => simp [dcells] at h0
  have C := hid (call_yes hW hy)
  go_enter Tryd.func43, Tryd.ntmps43
  go_wp2_with (first | (go_at_call 61; refine C.out.mono ?_; rintro e w1 ⟨rfl, k1, k2⟩) | (go_at_call 55; refine (append1_any (B0 := w.heap.size) (B1 := w.heap.size + 1) k1 (k2.heap hB0 (by omega)) (k2.heap hB1 (by omega)) (hq1.keeps' k2 hq') hbig ⟨by omega, fun e => by have := hrl _ e; omega⟩ ⟨by omega, fun e => by have := hrl _ e; omega⟩).mono ?_; rintro e w2 ⟨rfl, r', m1, m2, m3⟩) | go_in)
  go_ret
  refine ⟨rfl, r', m1, ?_, ?_⟩
  · rcases m2 with m2 | m2
    · exact .inl m2
    · exact .inr ⟨_, m2, by have := k2.size; simp at this; omega⟩
  · exact ((((Keeps.refl _ w).alloc _).alloc _).then k2 (fun k _ e => .inl e)).then m3 (fun k _ e => e)

theorem append_nay {w : World} {b : Nat} {r : Option Nat} {s : DS} {A2 : Option Addr} {n2 c2 : Nat} (h : DiskAt w b r s) (hn : s.ok = false) :
    Calls Tryd.prog 43 #[.pointer (some ⟨b, 0, none⟩), .slice A2 n2 c2] w fun e w' => e = .returned (.int .i64 9) ∧ Below w.heap.size w w' := by
  have hW : DiskAt ((w.alloc (.cells #[.pointer (some ⟨b, 0, none⟩)] 36)).alloc (.cells #[.slice A2 n2 c2] 22)) b r s := h.keeps (S := fun _ => False) (((Keeps.refl _ w).alloc _).alloc _) (fun e => e) (fun _ _ e => e)
  have C := hid (call_nay hW hn)
  go_enter Tryd.func43, Tryd.ntmps43
  go_wp2_with (first | (go_at_call 61; refine C.out.mono ?_; rintro e w1 ⟨rfl, rfl⟩) | go_in)
  go_ret
  exact ⟨rfl, below_alloc (below_alloc (Below.refl _ w) _) _⟩

theorem sync_yes {w : World} {b : Nat} {r : Option Nat} {s : DS} (h : DiskAt w b r s) (hy : s.ok = true) :
    Calls Tryd.prog 44 #[.pointer (some ⟨b, 0, none⟩)] w fun e w' => e = .returned (.int .i64 0) ∧ DiskAt w' b r { s.called with safe := s.p.length } ∧ Keeps (fun k => k = b) w w' := by
  obtain ⟨hbl, hrl⟩ := h.lt
  have hW : DiskAt (w.alloc (.cells #[.pointer (some ⟨b, 0, none⟩)] 36)) b r s := h.keeps (S := fun _ => False) ((Keeps.refl _ w).alloc _) (fun e => e) (fun _ _ e => e)
  have hB0 := heap_alloc_new w (.cells #[.pointer (some ⟨b, 0, none⟩)] 36)
  have C := hid (call_yes hW hy)
  go_enter Tryd.func44, Tryd.ntmps44
  go_wp2_with (first | (go_at_call 61; refine C.out.mono ?_; rintro e w1 ⟨rfl, k1, k2⟩) | (go_at_call 56; refine (sync1_any (B0 := w.heap.size) k1 (k2.heap hB0 (by omega))).mono ?_; rintro e w2 ⟨rfl, m1, m3⟩) | go_in)
  go_ret
  exact ⟨rfl, m1, (((Keeps.refl _ w).alloc _).then k2 (fun k _ e => e)).then m3 (fun k _ e => e)⟩

theorem sync_nay {w : World} {b : Nat} {r : Option Nat} {s : DS} (h : DiskAt w b r s) (hn : s.ok = false) :
    Calls Tryd.prog 44 #[.pointer (some ⟨b, 0, none⟩)] w fun e w' => e = .returned (.int .i64 9) ∧ Below w.heap.size w w' := by
  have hW : DiskAt (w.alloc (.cells #[.pointer (some ⟨b, 0, none⟩)] 36)) b r s := h.keeps (S := fun _ => False) ((Keeps.refl _ w).alloc _) (fun e => e) (fun _ _ e => e)
  have C := hid (call_nay hW hn)
  go_enter Tryd.func44, Tryd.ntmps44
  go_wp2_with (first | (go_at_call 61; refine C.out.mono ?_; rintro e w1 ⟨rfl, rfl⟩) | go_in)
  go_ret
  exact ⟨rfl, below_alloc (Below.refl _ w) _⟩

set_option maxHeartbeats 400000 in
theorem cut_yes {w : World} {b : Nat} {r : Option Nat} {s : DS} {n : Int} (h : DiskAt w b r s) (hn : -9223372036854775808 ≤ n ∧ n ≤ 9223372036854775807) (hbig : s.p.length ≤ 140737488355328) (hy : s.ok = true) :
    Calls Tryd.prog 41 #[.pointer (some ⟨b, 0, none⟩), .int .i64 n] w fun e w' => e = .returned (.int .i64 0) ∧ ∃ r', DiskAt w' b r' (s.called.cut n) ∧ (∀ k, r' = some k → w.heap.size ≤ k) ∧ Keeps (fun k => k = b) w w' := by
  obtain ⟨hbl, hrl⟩ := h.lt
  have hW : DiskAt ((w.alloc (.cells #[.pointer (some ⟨b, 0, none⟩)] 36)).alloc (.cells #[.int .i64 n] 3)) b r s := h.keeps (S := fun _ => False) (((Keeps.refl _ w).alloc _).alloc _) (fun e => e) (fun _ _ e => e)
  have hB0 := heap_alloc2_old w (.cells #[.pointer (some ⟨b, 0, none⟩)] 36) (.cells #[.int .i64 n] 3)
  have hB1 := heap_alloc2_new w (.cells #[.pointer (some ⟨b, 0, none⟩)] 36) (.cells #[.int .i64 n] 3)
  have C := hid (call_yes hW hy)
  go_enter Tryd.func41, Tryd.ntmps41
  go_wp2_with (first | (go_at_call 61; refine C.out.mono ?_; rintro e w1 ⟨rfl, k1, k2⟩) | (go_at_call 54; refine (cut1_any (B0 := w.heap.size) (B1 := w.heap.size + 1) k1 (k2.heap hB0 (by omega)) (k2.heap hB1 (by omega)) hn hbig (by omega)).mono ?_; rintro e w2 ⟨rfl, r', m1, m2, m3⟩) | go_in)
  go_ret
  exact ⟨rfl, r', m1, fun k hk => by have := m2 k hk; have := k2.size; simp at this; omega, ((((Keeps.refl _ w).alloc _).alloc _).then k2 (fun k _ e => e)).then m3 (fun k _ e => e)⟩

theorem cut_nay {w : World} {b : Nat} {r : Option Nat} {s : DS} {n : Int} (h : DiskAt w b r s) (hn : s.ok = false) :
    Calls Tryd.prog 41 #[.pointer (some ⟨b, 0, none⟩), .int .i64 n] w fun e w' => e = .returned (.int .i64 9) ∧ Below w.heap.size w w' := by
  have hW : DiskAt ((w.alloc (.cells #[.pointer (some ⟨b, 0, none⟩)] 36)).alloc (.cells #[.int .i64 n] 3)) b r s := h.keeps (S := fun _ => False) (((Keeps.refl _ w).alloc _).alloc _) (fun e => e) (fun _ _ e => e)
  have C := hid (call_nay hW hn)
  go_enter Tryd.func41, Tryd.ntmps41
  go_wp2_with (first | (go_at_call 61; refine C.out.mono ?_; rintro e w1 ⟨rfl, rfl⟩) | go_in)
  go_ret
  exact ⟨rfl, below_alloc (below_alloc (Below.refl _ w) _) _⟩

/-- A crash: what isn't safe is lost, but for some. -/
def DS.crash (s : DS) (keep : Int) : DS :=
  { p := s.p.take (s.safe + (min (max keep 0) (s.p.length - s.safe)).toNat), safe := s.safe + (min (max keep 0) (s.p.length - s.safe)).toNat, calls := 0, fails := false }

set_option maxHeartbeats 1600000 in
theorem crash_any {w : World} {b : Nat} {r : Option Nat} {s : DS} {n : Int} (h : DiskAt w b r s) (hn : -9223372036854775808 ≤ n ∧ n ≤ 9223372036854775807) (hbig : s.p.length ≤ 140737488355328) :
    Calls Tryd.prog 30 #[.pointer (some ⟨b, 0, none⟩), .int .i64 n] w fun e w' => e = .returned (.tuple #[]) ∧ ∃ r', DiskAt w' b r' (s.crash n) ∧ (∀ k, r' = some k → w.heap.size ≤ k) ∧ Keeps (fun k => k = b) w w' := by
  obtain ⟨A, c, g1, g2, g3, g4, g5, g6⟩ := h
  obtain ⟨_, _, hb⟩ := own_bsa g2
  have hb' : BSA w.drew A c s.p := hb
  obtain ⟨d, hd⟩ : ∃ d : Nat, (min (max n 0) ((s.p.length : Int) - s.safe)) = (d : Int) := ⟨(min (max n 0) ((s.p.length : Int) - s.safe)).toNat, by omega⟩
  obtain ⟨k, hk⟩ : ∃ k : Nat, k = s.safe + d := ⟨_, rfl⟩
  have hkl : k ≤ s.p.length := by omega
  have hcap := hb.1
  have hcap2 := hb.2.1
  unfold maxLen at hcap2
  have hheld := held_any (w := w.drew) n ((s.p.length : Int) - s.safe) (by omega) (by omega) hn.1 hn.2
  rw [hd] at hheld
  have HH := hid hheld
  have hcut : BSA w.drew A c (s.p.take k) := ⟨by simp; omega, hb'.2.1, hb'.2.2.1, fun ad e j hj => by rw [List.getElem_take]; exact hb'.2.2.2 ad e j (by simp at hj; omega)⟩
  have hcl : (s.p.take k).length = k := by simp; omega
  have HC := clone_any hcut (by simp; omega)
  rw [hcl] at HC
  have HC' := hid HC
  have c0 := cell_at g1 (i := 0) (v := .slice A s.p.length c) rfl
  have c1 := cell_at g1 (i := 1) (v := .int .i64 (s.safe : Int)) rfl
  have hkc : k ≤ c := by omega
  have hsub := hid (show wrap64 ((s.p.length : Int) - s.safe) = (s.p.length : Int) - s.safe by unfold wrap64; omega)
  have hadd := hid (show wrap64 ((s.safe : Int) + (d : Int)) = (k : Int) by unfold wrap64; omega)
  have HK := hid hk
  have HD := hid hd
  clear hk hd
  clear hheld HC
  go_enter Tryd.func30, Tryd.ntmps30
  go_wp2
  refine start_ (n := 27) (S := fun w' => w'.cell? ⟨b, 0, none⟩ = some (.slice A s.p.length c) ∧ w'.cell? ⟨b, 1, none⟩ = some (.int .i64 (s.safe : Int))) (ds := [26]) #[false, false, false, false, false, false, false, false, false, false, false, false, false, false, false, false, false, false, false, false, false, false, false, false, false, false, false] (by kernel_rfl) rfl rfl ⟨c0, c1⟩ (fun hHeld => ?_)
  refine pure_ (i := 0) (N := some 6) (v := ?_) (a' := ?_) #[true, false, false, false, false, false, false, false, false, false, false, false, false, false, false, false, false, false, false, false, false, false, false, false, false, false, false] rfl rfl (by kernel_rfl) (fun _ _ _ h => h) (Or.inl ⟨by rfl, ?_⟩) ?_ ?_
  rotate_left
  · intro w'
    go_simp
    with_reducible rfl
  rotate_left
  · simp only [Act.put, List.setIfInBounds_toArray, List.set_cons_zero, List.set_cons_succ, i64_w, i32_w, hsub.out, hadd.out]
    rfl
  refine pure_ (i := 1) (N := some 7) (v := ?_) (a' := ?_) #[true, true, false, false, false, false, false, false, false, false, false, false, false, false, false, false, false, false, false, false, false, false, false, false, false, false, false] rfl rfl (by kernel_rfl) (fun _ _ _ h => h) (Or.inl ⟨by rfl, ?_⟩) ?_ ?_
  rotate_left
  · intro w'
    go_simp
    with_reducible rfl
  rotate_left
  · simp only [Act.put, List.setIfInBounds_toArray, List.set_cons_zero, List.set_cons_succ, i64_w, i32_w, hsub.out, hadd.out]
    rfl
  refine pure_ (i := 2) (N := some 8) (v := ?_) (a' := ?_) #[true, true, true, false, false, false, false, false, false, false, false, false, false, false, false, false, false, false, false, false, false, false, false, false, false, false, false] rfl rfl (by kernel_rfl) (fun _ _ _ h => h) (Or.inl ⟨by rfl, ?_⟩) ?_ ?_
  rotate_left
  · intro w'
    go_simp
    with_reducible rfl
  rotate_left
  · simp only [Act.put, List.setIfInBounds_toArray, List.set_cons_zero, List.set_cons_succ, i64_w, i32_w, hsub.out, hadd.out]
    rfl
  refine pure_ (i := 3) (N := some 9) (v := ?_) (a' := ?_) #[true, true, true, true, false, false, false, false, false, false, false, false, false, false, false, false, false, false, false, false, false, false, false, false, false, false, false] rfl rfl (by kernel_rfl) (fun _ _ _ h => h) (Or.inl ⟨by rfl, ?_⟩) ?_ ?_
  rotate_left
  · intro w'
    go_simp
    with_reducible rfl
  rotate_left
  · simp only [Act.put, List.setIfInBounds_toArray, List.set_cons_zero, List.set_cons_succ, i64_w, i32_w, hsub.out, hadd.out]
    rfl
  refine pure_ (i := 5) (N := some 11) (v := ?_) (a' := ?_) #[true, true, true, true, false, true, false, false, false, false, false, false, false, false, false, false, false, false, false, false, false, false, false, false, false, false, false] rfl rfl (by kernel_rfl) (fun _ _ _ h => h) (Or.inl ⟨by rfl, ?_⟩) ?_ ?_
  rotate_left
  · intro w'
    go_simp
    with_reducible rfl
  rotate_left
  · simp only [Act.put, List.setIfInBounds_toArray, List.set_cons_zero, List.set_cons_succ, i64_w, i32_w, hsub.out, hadd.out]
    rfl
  refine pure_ (i := 6) (N := some 12) (v := ?_) (a' := ?_) #[true, true, true, true, false, true, true, false, false, false, false, false, false, false, false, false, false, false, false, false, false, false, false, false, false, false, false] rfl rfl (by kernel_rfl) (fun _ _ _ h => h) (Or.inl ⟨by rfl, ?_⟩) ?_ ?_
  rotate_left
  · intro w'
    go_simp
    with_reducible rfl
  rotate_left
  · simp only [Act.put, List.setIfInBounds_toArray, List.set_cons_zero, List.set_cons_succ, i64_w, i32_w, hsub.out, hadd.out]
    rfl
  refine pure_ (i := 7) (N := some 13) (v := ?_) (a' := ?_) #[true, true, true, true, false, true, true, true, false, false, false, false, false, false, false, false, false, false, false, false, false, false, false, false, false, false, false] rfl rfl (by kernel_rfl) (fun _ _ _ h => h) (Or.inl ⟨by rfl, ?_⟩) ?_ ?_
  rotate_left
  · intro w'
    go_simp
    with_reducible rfl
  rotate_left
  · simp only [Act.put, List.setIfInBounds_toArray, List.set_cons_zero, List.set_cons_succ, i64_w, i32_w, hsub.out, hadd.out]
    rfl
  refine pure_ (i := 9) (N := some 15) (v := ?_) (a' := ?_) #[true, true, true, true, false, true, true, true, false, true, false, false, false, false, false, false, false, false, false, false, false, false, false, false, false, false, false] rfl rfl (by kernel_rfl) (fun _ _ _ h => h) (Or.inl ⟨by rfl, ?_⟩) ?_ ?_
  rotate_left
  · intro w'
    go_simp
    with_reducible rfl
  rotate_left
  · simp only [Act.put, List.setIfInBounds_toArray, List.set_cons_zero, List.set_cons_succ, i64_w, i32_w, hsub.out, hadd.out]
    rfl
  refine pure_ (i := 10) (N := some 16) (v := ?_) (a' := ?_) #[true, true, true, true, false, true, true, true, false, true, true, false, false, false, false, false, false, false, false, false, false, false, false, false, false, false, false] rfl rfl (by kernel_rfl) (fun _ _ _ h => h) (Or.inl ⟨by rfl, ?_⟩) ?_ ?_
  rotate_left
  · intro w'
    go_simp
    with_reducible rfl
  rotate_left
  · simp only [Act.put, List.setIfInBounds_toArray, List.set_cons_zero, List.set_cons_succ, i64_w, i32_w, hsub.out, hadd.out]
    rfl
  refine pure_ (i := 11) (N := some 17) (v := ?_) (a' := ?_) #[true, true, true, true, false, true, true, true, false, true, true, true, false, false, false, false, false, false, false, false, false, false, false, false, false, false, false] rfl rfl (by kernel_rfl) (fun _ _ _ h => h) (Or.inl ⟨by rfl, ?_⟩) ?_ ?_
  rotate_left
  · intro w'
    go_simp
    with_reducible rfl
  rotate_left
  · simp only [Act.put, List.setIfInBounds_toArray, List.set_cons_zero, List.set_cons_succ, i64_w, i32_w, hsub.out, hadd.out]
    rfl
  refine pure_ (i := 12) (N := some 18) (v := ?_) (a' := ?_) #[true, true, true, true, false, true, true, true, false, true, true, true, true, false, false, false, false, false, false, false, false, false, false, false, false, false, false] rfl rfl (by kernel_rfl) (fun _ _ _ h => h) (Or.inl ⟨by rfl, ?_⟩) ?_ ?_
  rotate_left
  · intro w'
    go_simp
    with_reducible rfl
  rotate_left
  · simp only [Act.put, List.setIfInBounds_toArray, List.set_cons_zero, List.set_cons_succ, i64_w, i32_w, hsub.out, hadd.out]
    rfl
  refine pure_ (i := 15) (N := some 21) (v := ?_) (a' := ?_) #[true, true, true, true, false, true, true, true, false, true, true, true, true, false, false, true, false, false, false, false, false, false, false, false, false, false, false] rfl rfl (by kernel_rfl) (fun _ _ _ h => h) (Or.inl ⟨by rfl, ?_⟩) ?_ ?_
  rotate_left
  · intro w'
    go_simp
    with_reducible rfl
  rotate_left
  · simp only [Act.put, List.setIfInBounds_toArray, List.set_cons_zero, List.set_cons_succ, i64_w, i32_w, hsub.out, hadd.out]
    rfl
  refine pure_ (i := 16) (N := some 22) (v := ?_) (a' := ?_) #[true, true, true, true, false, true, true, true, false, true, true, true, true, false, false, true, true, false, false, false, false, false, false, false, false, false, false] rfl rfl (by kernel_rfl) (fun _ _ _ h => h) (Or.inl ⟨by rfl, ?_⟩) ?_ ?_
  rotate_left
  · intro w'
    go_simp
    with_reducible rfl
  rotate_left
  · simp only [Act.put, List.setIfInBounds_toArray, List.set_cons_zero, List.set_cons_succ, i64_w, i32_w, hsub.out, hadd.out]
    rfl
  refine pure_ (i := 17) (N := some 23) (v := ?_) (a' := ?_) #[true, true, true, true, false, true, true, true, false, true, true, true, true, false, false, true, true, true, false, false, false, false, false, false, false, false, false] rfl rfl (by kernel_rfl) (fun _ _ _ h => h) (Or.inl ⟨by rfl, ?_⟩) ?_ ?_
  rotate_left
  · intro w'
    go_simp
    with_reducible rfl
  rotate_left
  · simp only [Act.put, List.setIfInBounds_toArray, List.set_cons_zero, List.set_cons_succ, i64_w, i32_w, hsub.out, hadd.out]
    rfl
  refine take_ (i := 4) (N := some 10) (v := ?_) (a' := ?_) #[true, true, true, true, true, true, true, true, false, true, true, true, true, false, false, true, true, true, false, false, false, false, false, false, false, false, false] rfl rfl (by kernel_rfl) (fun _ _ _ h => h) (Or.inl ⟨by rfl, ?_⟩) hHeld ?_ ?_
  rotate_left
  · rintro w' ⟨s0, s1⟩
    go_simp
    with_reducible rfl
  rotate_left
  · simp only [Act.put, List.setIfInBounds_toArray, List.set_cons_zero, List.set_cons_succ, i64_w, i32_w, hsub.out, hadd.out]
    rfl
  refine take_ (i := 8) (N := some 14) (v := ?_) (a' := ?_) #[true, true, true, true, true, true, true, true, true, true, true, true, true, false, false, true, true, true, false, false, false, false, false, false, false, false, false] rfl rfl (by kernel_rfl) (fun _ _ _ h => h) (Or.inl ⟨by rfl, ?_⟩) hHeld ?_ ?_
  rotate_left
  · rintro w' ⟨s0, s1⟩
    go_simp
    with_reducible rfl
  rotate_left
  · simp only [Act.put, List.setIfInBounds_toArray, List.set_cons_zero, List.set_cons_succ, i64_w, i32_w, hsub.out, hadd.out]
    rfl
  refine take_ (i := 13) (N := some 19) (v := ?_) (a' := ?_) #[true, true, true, true, true, true, true, true, true, true, true, true, true, true, false, true, true, true, false, false, false, false, false, false, false, false, false] rfl rfl (by kernel_rfl) (fun _ _ _ h => h) (Or.inl ⟨by rfl, ?_⟩) hHeld ?_ ?_
  rotate_left
  · rintro w' ⟨s0, s1⟩
    go_simp
    with_reducible rfl
  rotate_left
  · simp only [Act.put, List.setIfInBounds_toArray, List.set_cons_zero, List.set_cons_succ, i64_w, i32_w, hsub.out, hadd.out]
    rfl
  refine pure_ (i := 14) (N := some 20) (v := ?_) (a' := ?_) #[true, true, true, true, true, true, true, true, true, true, true, true, true, true, true, true, true, true, false, false, false, false, false, false, false, false, false] rfl rfl (by kernel_rfl) (fun _ _ _ h => h) (Or.inl ⟨by rfl, ?_⟩) ?_ ?_
  rotate_left
  · intro w'
    go_simp
    with_reducible rfl
  rotate_left
  · simp only [Act.put, List.setIfInBounds_toArray, List.set_cons_zero, List.set_cons_succ, i64_w, i32_w, hsub.out, hadd.out]
    rfl
  refine take_ (i := 18) (N := some 24) (v := ?_) (a' := ?_) #[true, true, true, true, true, true, true, true, true, true, true, true, true, true, true, true, true, true, true, false, false, false, false, false, false, false, false] rfl rfl (by kernel_rfl) (fun _ _ _ h => h) (Or.inl ⟨by rfl, ?_⟩) hHeld ?_ ?_
  rotate_left
  · rintro w' ⟨s0, s1⟩
    go_simp
    with_reducible rfl
  rotate_left
  · simp only [Act.put, List.setIfInBounds_toArray, List.set_cons_zero, List.set_cons_succ, i64_w, i32_w, hsub.out, hadd.out]
    rfl
  refine pure_ (i := 19) (N := some 25) (v := ?_) (a' := ?_) #[true, true, true, true, true, true, true, true, true, true, true, true, true, true, true, true, true, true, true, true, false, false, false, false, false, false, false] rfl rfl (by kernel_rfl) (fun _ _ _ h => h) (Or.inl ⟨by rfl, ?_⟩) ?_ ?_
  rotate_left
  · intro w'
    go_simp
    with_reducible rfl
  rotate_left
  · simp only [Act.put, List.setIfInBounds_toArray, List.set_cons_zero, List.set_cons_succ, i64_w, i32_w, hsub.out, hadd.out]
    rfl
  refine one_ (i := 20) (N := some 26) #[true, true, true, true, true, true, true, true, true, true, true, true, true, true, true, true, true, true, true, true, true, false, false, false, false, false, false] rfl rfl (by kernel_rfl) (by decide) (fun K hK => ?_)
  refine goes_ Tryd.func45 (by kernel_rfl) rfl #[.int .i64 n, .int .i64 ((s.p.length : Int) - s.safe)] (by rfl) rfl rfl (by simp only [List.map_toArray, List.map_cons, List.map_nil]; rfl) ?_
  with_reducible refine (HH.out).mono ?_
  rintro e w3 ⟨rfl, rfl⟩
  refine ⟨_, rfl, ?_⟩
  refine hK.out _ _ ⟨c0, c1⟩ (fun hHeld => ?_)
  clear hK K
  refine norm_ (a' := ?_) ?_ ?_
  rotate_left
  · show Act.put _ (some 26) _ = _
    simp only [Act.put, List.setIfInBounds_toArray, List.set_cons_zero, List.set_cons_succ, i64_w, i32_w, hsub.out, hadd.out]
    rfl
  refine pure_ (i := 21) (N := some 27) (v := ?_) (a' := ?_) #[true, true, true, true, true, true, true, true, true, true, true, true, true, true, true, true, true, true, true, true, true, true, false, false, false, false, false] rfl rfl (by kernel_rfl) (fun _ _ _ h => h) (Or.inl ⟨by rfl, ?_⟩) ?_ ?_
  rotate_left
  · intro w'
    go_simp
    with_reducible rfl
  rotate_left
  · simp only [Act.put, List.setIfInBounds_toArray, List.set_cons_zero, List.set_cons_succ, i64_w, i32_w, hsub.out, hadd.out]
    rfl
  refine pure_ (i := 22) (N := some 28) (v := ?_) (a' := ?_) #[true, true, true, true, true, true, true, true, true, true, true, true, true, true, true, true, true, true, true, true, true, true, true, false, false, false, false] rfl rfl (by kernel_rfl) (fun _ _ _ h => h) (Or.inl ⟨by rfl, ?_⟩) ?_ ?_
  rotate_left
  · intro w'
    go_simp
    with_reducible rfl
  rotate_left
  · simp only [Act.put, List.setIfInBounds_toArray, List.set_cons_zero, List.set_cons_succ, i64_w, i32_w, hsub.out, hadd.out]
    rfl
  refine one_ (i := 23) (N := some 29) #[true, true, true, true, true, true, true, true, true, true, true, true, true, true, true, true, true, true, true, true, true, true, true, true, false, false, false] rfl rfl (by kernel_rfl) (by decide) (fun K hK => ?_)
  refine goes_ Tryd.func36 (by kernel_rfl) rfl #[.slice A k c] (by rfl) rfl rfl (by simp only [List.map_toArray, List.map_cons, List.map_nil]; rfl) ?_
  with_reducible refine (HC'.out).mono ?_
  rintro e w1 ⟨A', c', rfl, k1, k2, k3⟩
  refine ⟨_, rfl, ?_⟩
  have e1 := below_heap k3 g1
  have d2 := cell_at e1 (i := 0) (v := .slice A s.p.length c) rfl
  have f2 := free_at e1 0
  refine hK.out _ _ ⟨below_cell k3 c0, below_cell k3 c1⟩ (fun hHeld => ?_)
  clear hK K
  refine norm_ (a' := ?_) ?_ ?_
  rotate_left
  · show Act.put _ (some 29) _ = _
    simp only [Act.put, List.setIfInBounds_toArray, List.set_cons_zero, List.set_cons_succ, i64_w, i32_w, hsub.out, hadd.out]
    rfl
  refine pure_ (i := 24) (N := some 30) (v := ?_) (a' := ?_) #[true, true, true, true, true, true, true, true, true, true, true, true, true, true, true, true, true, true, true, true, true, true, true, true, true, false, false] rfl rfl (by kernel_rfl) (fun _ _ _ h => h) (Or.inl ⟨by rfl, ?_⟩) ?_ ?_
  rotate_left
  · intro w'
    go_simp
    with_reducible rfl
  rotate_left
  · simp only [Act.put, List.setIfInBounds_toArray, List.set_cons_zero, List.set_cons_succ, i64_w, i32_w, hsub.out, hadd.out]
    rfl
  refine pure_ (i := 25) (N := some 31) (v := ?_) (a' := ?_) #[true, true, true, true, true, true, true, true, true, true, true, true, true, true, true, true, true, true, true, true, true, true, true, true, true, true, false] rfl rfl (by kernel_rfl) (fun _ _ _ h => h) (Or.inl ⟨by rfl, ?_⟩) ?_ ?_
  rotate_left
  · intro w'
    go_simp
    with_reducible rfl
  rotate_left
  · simp only [Act.put, List.setIfInBounds_toArray, List.set_cons_zero, List.set_cons_succ, i64_w, i32_w, hsub.out, hadd.out]
    rfl
  refine last_ (i := 26) (N := none) #[true, true, true, true, true, true, true, true, true, true, true, true, true, true, true, true, true, true, true, true, true, true, true, true, true, true, true] rfl rfl (by kernel_rfl) (by decide) (fun K hK => ?_)
  refine skip_ (w1 := ?_) (by rfl) rfl ?_ ?_
  rotate_left
  · go_simp
    rfl
  refine hK.out _ _ ?_
  clear hK K
  refine done_ (by kernel_rfl) ?_
  have hb1 : (Value.slice A' k c').ownBlock ≠ some b := fun e => by have := k2 _ e; have := lt_of_block g1; simp at *; omega
  have e3 := heap_set (i := 0) (v := .slice A' k c') e1
  have e3' : (w1.setCell ⟨b, 0, none⟩ (.slice A' k c')).heap[b]? = some (.cells (dcells (.slice A' k c') s.safe s.calls s.fails) 71 (0, 0)) := by rw [e3]; simp [dcells]
  have o3 := ownsRow_setCell_other k1 (a := ⟨b, 0, none⟩) hb1 (.slice A' k c')
  have K3 : Keeps (fun k => k = b) w (w1.setCell ⟨b, 0, none⟩ (.slice A' k c')) := ((Keeps.refl (fun k => k = b) w).drew.below k3).setCell (p := ⟨b, 0, none⟩) (fun _ => rfl) _
  have bl : ∀ j, (Value.slice A' k c').ownBlock = some j → w.heap.size ≤ j := k2
  clear e3 e1 d2 f2 k1 k2 k3 HH HC' hb hb' hcut c0 c1 g1 g2
  generalize w1.setCell ⟨b, 0, none⟩ (.slice A' k c') = W at *
  have c0 := cell_at e3' (i := 0) (v := .slice A' k c') rfl
  have f1 := free_at e3' 1
  have c1 := cell_at e3' (i := 1) (v := .int .i64 (s.safe : Int)) rfl
  have o4 := ownsRow_setCell_other o3 (a := ⟨b, 1, none⟩) hb1 (.int .i64 (k : Int))
  have D : DiskAt (W.setCell ⟨b, 1, none⟩ (.int .i64 (k : Int))) b (Value.slice A' k c').ownBlock { p := s.p.take k, safe := k, calls := s.calls, fails := s.fails } := by
    refine ⟨A', c', ?_, by simpa [hcl] using o4, by simp [hcl], by simp; omega, g5, hb1⟩
    rw [heap_set e3']
    simp [dcells]
    omega
  have K4 : Keeps (fun k => k = b) w (W.setCell ⟨b, 1, none⟩ (.int .i64 (k : Int))) := K3.setCell (p := ⟨b, 1, none⟩) (fun _ => rfl) _
  have FF := hid (fail_any D (-1) (by omega))
  have hcr : ({ p := s.p.take k, safe := k, calls := s.calls, fails := s.fails } : DS).fail (-1) = s.crash n := by
    simp only [DS.fail, DS.crash, HD.out, HK.out]
    simp
  have HCR := hid hcr
  clear e3' o3 o4 K3 hcr D
  go_wp2_with (go_at_call 22; refine FF.out.mono ?_; rintro e w2 ⟨rfl, m1, m2⟩)
  go_end0
  rw [HCR.out] at m1
  exact ⟨rfl, _, m1, bl, K4.then m2 (fun k _ e => e)⟩
end Go.Proofs.YtponofojildbmaaDoor
