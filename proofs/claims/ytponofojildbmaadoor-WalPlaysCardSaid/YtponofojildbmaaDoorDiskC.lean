/- The walks of package disk: Sync, Cut, Crash, and the calls that count. -/
import Derived.Test.YtponofojildbmaaDoorDiskB
import Derived.Test.YtponofojildbmaaDoorLast
set_option linter.unusedVariables false
set_option linter.unusedSimpArgs false
namespace Go.Proofs.YtponofojildbmaaDoor
open Go.RowKit PrintLast

/-- Field i of the disk is written. -/
theorem DiskAt.set {w : World} {b : Nat} {r : Option Nat} {s : DS} (h : DiskAt w b r s) : ∃ A c, w.heap[b]? = some (.cells (dcells (.slice A s.p.length c) s.safe s.calls s.fails) 71 (0, 0)) ∧ BSA w A c s.p ∧
    (∀ k : Nat, k ≤ s.p.length → DiskAt (w.setCell ⟨b, 1, none⟩ (.int .i64 (k : Int))) b r { s with safe := k } ∧ Keeps (fun k => k = b) w (w.setCell ⟨b, 1, none⟩ (.int .i64 (k : Int)))) ∧
    (∀ k : Nat, k ≤ 9223372036854775807 → DiskAt (w.setCell ⟨b, 2, none⟩ (.int .i64 (k : Int))) b r { s with calls := k } ∧ Keeps (fun k => k = b) w (w.setCell ⟨b, 2, none⟩ (.int .i64 (k : Int)))) := by
  obtain ⟨A, c, g1, g2, g3, g4, g5, g6⟩ := h
  have hk : ∀ i u, Keeps (fun k => k = b) w (w.setCell ⟨b, i, none⟩ u) := fun i u => (Keeps.refl (fun k => k = b) w).setCell (p := ⟨b, i, none⟩) (fun _ => rfl) u
  have ho : ∀ i u, (w.setCell ⟨b, i, none⟩ u).ownsRow 0 5 1 (.slice A s.p.length c) s.p.length (bytesV s.p) := fun i u => (hk i u).own g2 (fun k e e' => g6 (by subst e'; rw [← g3]; exact e))
  refine ⟨A, c, g1, (own_bsa g2).2.2, fun k hk' => ⟨⟨A, c, ?_, ho _ _, g3, hk', g5, g6⟩, hk _ _⟩, fun k hk' => ⟨⟨A, c, ?_, ho _ _, g3, g4, hk', g6⟩, hk _ _⟩⟩
  · rw [heap_set g1]; simp [dcells]
  · rw [heap_set g1]; simp [dcells]

set_option maxHeartbeats 400000 in
theorem sync1_any {w : World} {b B0 : Nat} {r : Option Nat} {s : DS} {t0 : TypeId} (h : DiskAt w b r s) (h0 : w.heap[B0]? = some (.cells #[.pointer (some ⟨b, 0, none⟩)] t0 (0, 0))) :
    Calls Tryd.prog 56 #[.pointer (some ⟨B0, 0, none⟩)] w fun e w' => e = .returned (.tuple #[]) ∧ DiskAt w' b r { s with safe := s.p.length } ∧ Keeps (fun k => k = b) w w' := by
  obtain ⟨A, c, g1, _, g3, _⟩ := (show DiskAt w.drew b r s from h).set
  have F := hid (g3 s.p.length (Nat.le_refl _))
  clear g3
  have d0 := cell_of_one h0
  have c0 := cell_at g1 (i := 0) (v := .slice A s.p.length c) rfl
  have c1 := cell_at g1 (i := 1) (v := .int .i64 (s.safe : Int)) rfl
  have f1 := free_at g1 1
  clear g1 h0 h
  go_enter Tryd.func56, Tryd.ntmps56
  go_wp2
  go_region
  all_goals go_wp2
  all_goals (go_end0; refine ⟨rfl, F.out.1, ?_⟩; exact ⟨rfl, rfl, rfl, F.out.2.size, F.out.2.block⟩)

/-- The first bytes alone. -/
def DS.cut (s : DS) (n : Int) : DS := { s with p := s.p.take (min (max n 0) s.p.length).toNat, safe := (min (max n 0) s.p.length).toNat }

set_option maxHeartbeats 800000 in
theorem cut1_any {w : World} {b B0 B1 : Nat} {r : Option Nat} {s : DS} {n : Int} {t0 t1 : TypeId} (h : DiskAt w b r s) (h0 : w.heap[B0]? = some (.cells #[.pointer (some ⟨b, 0, none⟩)] t0 (0, 0))) (h1 : w.heap[B1]? = some (.cells #[.int .i64 n] t1 (0, 0)))
    (hn : -9223372036854775808 ≤ n ∧ n ≤ 9223372036854775807) (hbig : s.p.length ≤ 140737488355328) (n0 : B0 ≠ b) :
    Calls Tryd.prog 54 #[.pointer (some ⟨B0, 0, none⟩), .pointer (some ⟨B1, 0, none⟩)] w fun e w' => e = .returned (.tuple #[]) ∧ ∃ r', DiskAt w' b r' (s.cut n) ∧ (∀ k, r' = some k → w.heap.size ≤ k) ∧ Keeps (fun k => k = b) w w' := by
  obtain ⟨A, c, g1, g2, g3, g4, g5, g6⟩ := h
  obtain ⟨_, _, hb⟩ := own_bsa g2
  have hb' : BSA w.drew A c s.p := hb
  obtain ⟨k, hk⟩ : ∃ k : Nat, (min (max n 0) (s.p.length : Int)) = (k : Int) := ⟨(min (max n 0) (s.p.length : Int)).toNat, by omega⟩
  have hkl : k ≤ s.p.length := by omega
  have hcap := hb.1
  have hcap2 := hb.2.1
  unfold maxLen at hcap2
  have hheld := held_any (w := w.drew) n s.p.length (by omega) (by omega) hn.1 hn.2
  rw [hk] at hheld
  have HH := hid hheld
  have hcut : BSA w.drew A c (s.p.take k) := ⟨by simp; omega, hb'.2.1, hb'.2.2.1, fun ad e j hj => by rw [List.getElem_take]; exact hb'.2.2.2 ad e j (by simp at hj; omega)⟩
  have hcl : (s.p.take k).length = k := by simp; omega
  have HC := clone_any hcut (by simp; omega)
  rw [hcl] at HC
  have HC' := hid HC
  have d0 := cell_of_one h0
  have d1 := cell_of_one h1
  have c0 := cell_at g1 (i := 0) (v := .slice A s.p.length c) rfl
  have hkc : k ≤ c := by omega
  go_enter Tryd.func54, Tryd.ntmps54
  go_wp2
  clear hheld HC
  refine start_ (n := 17) (S := fun w' => w'.cell? ⟨B0, 0, none⟩ = some (.pointer (some ⟨b, 0, none⟩)) ∧ w'.cell? ⟨B1, 0, none⟩ = some (.int .i64 n) ∧ w'.cell? ⟨b, 0, none⟩ = some (.slice A s.p.length c)) (ds := [16]) #[false, false, false, false, false, false, false, false, false, false, false, false, false, false, false, false, false] (by kernel_rfl) rfl rfl ⟨d0, d1, c0⟩ (fun hHeld => ?_)
  refine take_ (i := 0) (N := some 2) (v := ?_) (a' := ?_) #[true, false, false, false, false, false, false, false, false, false, false, false, false, false, false, false, false] rfl rfl (by kernel_rfl) (fun _ _ _ h => h) (Or.inl ⟨by rfl, ?_⟩) hHeld ?_ ?_
  rotate_left
  · rintro w' ⟨s0, s1, s2⟩
    go_simp
    with_reducible rfl
  rotate_left
  · simp only [Act.put, List.setIfInBounds_toArray, List.set_cons_zero, List.set_cons_succ, i64_w, i32_w]
    rfl
  refine take_ (i := 1) (N := some 3) (v := ?_) (a' := ?_) #[true, true, false, false, false, false, false, false, false, false, false, false, false, false, false, false, false] rfl rfl (by kernel_rfl) (fun _ _ _ h => h) (Or.inl ⟨by rfl, ?_⟩) hHeld ?_ ?_
  rotate_left
  · rintro w' ⟨s0, s1, s2⟩
    go_simp
    with_reducible rfl
  rotate_left
  · simp only [Act.put, List.setIfInBounds_toArray, List.set_cons_zero, List.set_cons_succ, i64_w, i32_w]
    rfl
  refine pure_ (i := 2) (N := some 4) (v := ?_) (a' := ?_) #[true, true, true, false, false, false, false, false, false, false, false, false, false, false, false, false, false] rfl rfl (by kernel_rfl) (fun _ _ _ h => h) (Or.inl ⟨by rfl, ?_⟩) ?_ ?_
  rotate_left
  · intro w'
    go_simp
    with_reducible rfl
  rotate_left
  · simp only [Act.put, List.setIfInBounds_toArray, List.set_cons_zero, List.set_cons_succ, i64_w, i32_w]
    rfl
  refine pure_ (i := 3) (N := some 5) (v := ?_) (a' := ?_) #[true, true, true, true, false, false, false, false, false, false, false, false, false, false, false, false, false] rfl rfl (by kernel_rfl) (fun _ _ _ h => h) (Or.inl ⟨by rfl, ?_⟩) ?_ ?_
  rotate_left
  · intro w'
    go_simp
    with_reducible rfl
  rotate_left
  · simp only [Act.put, List.setIfInBounds_toArray, List.set_cons_zero, List.set_cons_succ, i64_w, i32_w]
    rfl
  refine take_ (i := 4) (N := some 6) (v := ?_) (a' := ?_) #[true, true, true, true, true, false, false, false, false, false, false, false, false, false, false, false, false] rfl rfl (by kernel_rfl) (fun _ _ _ h => h) (Or.inl ⟨by rfl, ?_⟩) hHeld ?_ ?_
  rotate_left
  · rintro w' ⟨s0, s1, s2⟩
    go_simp
    with_reducible rfl
  rotate_left
  · simp only [Act.put, List.setIfInBounds_toArray, List.set_cons_zero, List.set_cons_succ, i64_w, i32_w]
    rfl
  refine take_ (i := 5) (N := some 7) (v := ?_) (a' := ?_) #[true, true, true, true, true, true, false, false, false, false, false, false, false, false, false, false, false] rfl rfl (by kernel_rfl) (fun _ _ _ h => h) (Or.inl ⟨by rfl, ?_⟩) hHeld ?_ ?_
  rotate_left
  · rintro w' ⟨s0, s1, s2⟩
    go_simp
    with_reducible rfl
  rotate_left
  · simp only [Act.put, List.setIfInBounds_toArray, List.set_cons_zero, List.set_cons_succ, i64_w, i32_w]
    rfl
  refine take_ (i := 6) (N := some 8) (v := ?_) (a' := ?_) #[true, true, true, true, true, true, true, false, false, false, false, false, false, false, false, false, false] rfl rfl (by kernel_rfl) (fun _ _ _ h => h) (Or.inl ⟨by rfl, ?_⟩) hHeld ?_ ?_
  rotate_left
  · rintro w' ⟨s0, s1, s2⟩
    go_simp
    with_reducible rfl
  rotate_left
  · simp only [Act.put, List.setIfInBounds_toArray, List.set_cons_zero, List.set_cons_succ, i64_w, i32_w]
    rfl
  refine pure_ (i := 7) (N := some 9) (v := ?_) (a' := ?_) #[true, true, true, true, true, true, true, true, false, false, false, false, false, false, false, false, false] rfl rfl (by kernel_rfl) (fun _ _ _ h => h) (Or.inl ⟨by rfl, ?_⟩) ?_ ?_
  rotate_left
  · intro w'
    go_simp
    with_reducible rfl
  rotate_left
  · simp only [Act.put, List.setIfInBounds_toArray, List.set_cons_zero, List.set_cons_succ, i64_w, i32_w]
    rfl
  refine pure_ (i := 8) (N := some 10) (v := ?_) (a' := ?_) #[true, true, true, true, true, true, true, true, true, false, false, false, false, false, false, false, false] rfl rfl (by kernel_rfl) (fun _ _ _ h => h) (Or.inl ⟨by rfl, ?_⟩) ?_ ?_
  rotate_left
  · intro w'
    go_simp
    with_reducible rfl
  rotate_left
  · simp only [Act.put, List.setIfInBounds_toArray, List.set_cons_zero, List.set_cons_succ, i64_w, i32_w]
    rfl
  refine take_ (i := 9) (N := some 11) (v := ?_) (a' := ?_) #[true, true, true, true, true, true, true, true, true, true, false, false, false, false, false, false, false] rfl rfl (by kernel_rfl) (fun _ _ _ h => h) (Or.inl ⟨by rfl, ?_⟩) hHeld ?_ ?_
  rotate_left
  · rintro w' ⟨s0, s1, s2⟩
    go_simp
    with_reducible rfl
  rotate_left
  · simp only [Act.put, List.setIfInBounds_toArray, List.set_cons_zero, List.set_cons_succ, i64_w, i32_w]
    rfl
  refine pure_ (i := 10) (N := some 12) (v := ?_) (a' := ?_) #[true, true, true, true, true, true, true, true, true, true, true, false, false, false, false, false, false] rfl rfl (by kernel_rfl) (fun _ _ _ h => h) (Or.inl ⟨by rfl, ?_⟩) ?_ ?_
  rotate_left
  · intro w'
    go_simp
    with_reducible rfl
  rotate_left
  · simp only [Act.put, List.setIfInBounds_toArray, List.set_cons_zero, List.set_cons_succ, i64_w, i32_w]
    rfl
  refine one_ (i := 11) (N := some 13) #[true, true, true, true, true, true, true, true, true, true, true, true, false, false, false, false, false] rfl rfl (by kernel_rfl) (by decide) (fun K hK => ?_)
  refine goes_ Tryd.func45 (by kernel_rfl) rfl #[.int .i64 n, .int .i64 (s.p.length : Int)] (by rfl) rfl rfl (by simp only [List.map_toArray, List.map_cons, List.map_nil]; rfl) ?_
  with_reducible refine (HH.out).mono ?_
  rintro e w3 ⟨rfl, rfl⟩
  refine ⟨_, rfl, ?_⟩
  refine hK.out _ _ ⟨d0, d1, c0⟩ (fun hHeld => ?_)
  clear hK K
  refine norm_ (a' := ?_) ?_ ?_
  rotate_left
  · show Act.put _ (some 13) _ = _
    simp only [Act.put, List.setIfInBounds_toArray, List.set_cons_zero, List.set_cons_succ, i64_w, i32_w]
    rfl
  refine pure_ (i := 12) (N := some 14) (v := ?_) (a' := ?_) #[true, true, true, true, true, true, true, true, true, true, true, true, true, false, false, false, false] rfl rfl (by kernel_rfl) (fun _ _ _ h => h) (Or.inl ⟨by rfl, ?_⟩) ?_ ?_
  rotate_left
  · intro w'
    go_simp
    with_reducible rfl
  rotate_left
  · simp only [Act.put, List.setIfInBounds_toArray, List.set_cons_zero, List.set_cons_succ, i64_w, i32_w]
    rfl
  refine one_ (i := 13) (N := some 15) #[true, true, true, true, true, true, true, true, true, true, true, true, true, true, false, false, false] rfl rfl (by kernel_rfl) (by decide) (fun K hK => ?_)
  refine goes_ Tryd.func36 (by kernel_rfl) rfl #[.slice A k c] (by rfl) rfl rfl (by simp only [List.map_toArray, List.map_cons, List.map_nil]; rfl) ?_
  with_reducible refine (HC'.out).mono ?_
  rintro e w1 ⟨A', c', rfl, k1, k2, k3⟩
  refine ⟨_, rfl, ?_⟩
  have e1 := below_heap k3 g1
  have d2 := cell_at e1 (i := 0) (v := .slice A s.p.length c) rfl
  have f2 := free_at e1 0
  refine hK.out _ _ ⟨below_cell k3 d0, below_cell k3 d1, d2⟩ (fun hHeld => ?_)
  clear hK K
  refine norm_ (a' := ?_) ?_ ?_
  rotate_left
  · show Act.put _ (some 15) _ = _
    simp only [Act.put, List.setIfInBounds_toArray, List.set_cons_zero, List.set_cons_succ, i64_w, i32_w]
    rfl
  refine pure_ (i := 14) (N := some 16) (v := ?_) (a' := ?_) #[true, true, true, true, true, true, true, true, true, true, true, true, true, true, true, false, false] rfl rfl (by kernel_rfl) (fun _ _ _ h => h) (Or.inl ⟨by rfl, ?_⟩) ?_ ?_
  rotate_left
  · intro w'
    go_simp
    with_reducible rfl
  rotate_left
  · simp only [Act.put, List.setIfInBounds_toArray, List.set_cons_zero, List.set_cons_succ, i64_w, i32_w]
    rfl
  refine pure_ (i := 15) (N := some 17) (v := ?_) (a' := ?_) #[true, true, true, true, true, true, true, true, true, true, true, true, true, true, true, true, false] rfl rfl (by kernel_rfl) (fun _ _ _ h => h) (Or.inl ⟨by rfl, ?_⟩) ?_ ?_
  rotate_left
  · intro w'
    go_simp
    with_reducible rfl
  rotate_left
  · simp only [Act.put, List.setIfInBounds_toArray, List.set_cons_zero, List.set_cons_succ, i64_w, i32_w]
    rfl
  refine last_ (i := 16) (N := none) #[true, true, true, true, true, true, true, true, true, true, true, true, true, true, true, true, true] rfl rfl (by kernel_rfl) (by decide) (fun K hK => ?_)
  refine skip_ (w1 := ?_) (by rfl) rfl ?_ ?_
  rotate_left
  · go_simp
    rfl
  refine hK.out _ _ ?_
  clear hK K
  refine done_ (by kernel_rfl) ?_
  have hb1 : (Value.slice A' k c').ownBlock ≠ some b := fun e => by have := k2 _ e; have := lt_of_block g1; simp at *; omega
  have e3 := heap_set (i := 0) (v := .slice A' k c') e1
  have e3' : (w1.setCell ⟨b, 0, none⟩ (.slice A' k c')).heap[b]? = some (.cells (dcells (.slice A' k c') s.safe s.calls s.fails) 71 (0, 0)) := by rw [e3]; simp [dcells]
  have e4 : (w1.setCell ⟨b, 0, none⟩ (.slice A' k c')).heap[B0]? = some (.cells #[.pointer (some ⟨b, 0, none⟩)] t0 (0, 0)) := (heap_setCell_other _ _ _ _ n0).trans (below_heap k3 h0)
  have o3 := ownsRow_setCell_other k1 (a := ⟨b, 0, none⟩) hb1 (.slice A' k c')
  have K3 : Keeps (fun k => k = b) w (w1.setCell ⟨b, 0, none⟩ (.slice A' k c')) := ((Keeps.refl (fun k => k = b) w).drew.below k3).setCell (p := ⟨b, 0, none⟩) (fun _ => rfl) _
  have bl : ∀ j, (Value.slice A' k c').ownBlock = some j → w.heap.size ≤ j := k2
  clear e3 e1 d2 f2 k1 k2 k3 HH HC' hb hb' hcut d0 d1 c0 g1 g2 h0 h1
  generalize w1.setCell ⟨b, 0, none⟩ (.slice A' k c') = W at *
  have d0 := cell_of_one e4
  have c0 := cell_at e3' (i := 0) (v := .slice A' k c') rfl
  have c1 := cell_at e3' (i := 1) (v := .int .i64 (s.safe : Int)) rfl
  have f1 := free_at e3' 1
  have hcu : (s.cut n) = { s with p := s.p.take k, safe := k } := by simp [DS.cut, hk]
  have FIN : ∃ r', DiskAt (W.drew.setCell ⟨b, 1, none⟩ (.int .i64 (k : Int))) b r' (s.cut n) ∧ (∀ k, r' = some k → w.heap.size ≤ k) ∧ Keeps (fun k => k = b) w (W.drew.setCell ⟨b, 1, none⟩ (.int .i64 (k : Int))) := by
    refine ⟨(Value.slice A' k c').ownBlock, ?_, bl, K3.drew.setCell (p := ⟨b, 1, none⟩) (fun _ => rfl) _⟩
    rw [hcu]
    have o4 := ownsRow_setCell_other (show W.drew.ownsRow 0 5 1 (.slice A' k c') k (bytesV (s.p.take k)) from o3) (a := ⟨b, 1, none⟩) hb1 (.int .i64 (k : Int))
    refine ⟨A', c', ?_, by simpa [hcl] using o4, by simp [hcl], by simp; omega, g5, hb1⟩
    rw [heap_set (show W.drew.heap[b]? = _ from e3')]
    simp [dcells]
    omega
  have F := hid FIN
  clear FIN e3' e4 o3 K3 bl hcu hk
  go_wp2
  refine start_ (n := 9) (S := fun w' => w'.cell? ⟨B0, 0, none⟩ = some (.pointer (some ⟨b, 0, none⟩)) ∧ w'.cell? ⟨b, 0, none⟩ = some (.slice A' k c')) (ds := [8]) #[false, false, false, false, false, false, false, false, false] (by kernel_rfl) rfl rfl ⟨d0, c0⟩ (fun hHeld => ?_)
  refine take_ (i := 0) (N := some 18) (v := ?_) (a' := ?_) #[true, false, false, false, false, false, false, false, false] rfl rfl (by kernel_rfl) (fun _ _ _ h => h) (Or.inl ⟨by rfl, ?_⟩) hHeld ?_ ?_
  rotate_left
  · rintro w' ⟨s0, s1⟩
    go_simp
    with_reducible rfl
  rotate_left
  · simp only [Act.put, List.setIfInBounds_toArray, List.set_cons_zero, List.set_cons_succ, i64_w, i32_w]
    rfl
  refine take_ (i := 1) (N := some 19) (v := ?_) (a' := ?_) #[true, true, false, false, false, false, false, false, false] rfl rfl (by kernel_rfl) (fun _ _ _ h => h) (Or.inl ⟨by rfl, ?_⟩) hHeld ?_ ?_
  rotate_left
  · rintro w' ⟨s0, s1⟩
    go_simp
    with_reducible rfl
  rotate_left
  · simp only [Act.put, List.setIfInBounds_toArray, List.set_cons_zero, List.set_cons_succ, i64_w, i32_w]
    rfl
  refine pure_ (i := 2) (N := some 20) (v := ?_) (a' := ?_) #[true, true, true, false, false, false, false, false, false] rfl rfl (by kernel_rfl) (fun _ _ _ h => h) (Or.inl ⟨by rfl, ?_⟩) ?_ ?_
  rotate_left
  · intro w'
    go_simp
    with_reducible rfl
  rotate_left
  · simp only [Act.put, List.setIfInBounds_toArray, List.set_cons_zero, List.set_cons_succ, i64_w, i32_w]
    rfl
  refine pure_ (i := 3) (N := some 21) (v := ?_) (a' := ?_) #[true, true, true, true, false, false, false, false, false] rfl rfl (by kernel_rfl) (fun _ _ _ h => h) (Or.inl ⟨by rfl, ?_⟩) ?_ ?_
  rotate_left
  · intro w'
    go_simp
    with_reducible rfl
  rotate_left
  · simp only [Act.put, List.setIfInBounds_toArray, List.set_cons_zero, List.set_cons_succ, i64_w, i32_w]
    rfl
  refine take_ (i := 4) (N := some 22) (v := ?_) (a' := ?_) #[true, true, true, true, true, false, false, false, false] rfl rfl (by kernel_rfl) (fun _ _ _ h => h) (Or.inl ⟨by rfl, ?_⟩) hHeld ?_ ?_
  rotate_left
  · rintro w' ⟨s0, s1⟩
    go_simp
    with_reducible rfl
  rotate_left
  · simp only [Act.put, List.setIfInBounds_toArray, List.set_cons_zero, List.set_cons_succ, i64_w, i32_w]
    rfl
  refine pure_ (i := 5) (N := some 23) (v := ?_) (a' := ?_) #[true, true, true, true, true, true, false, false, false] rfl rfl (by kernel_rfl) (fun _ _ _ h => h) (Or.inl ⟨by rfl, ?_⟩) ?_ ?_
  rotate_left
  · intro w'
    go_simp
    with_reducible rfl
  rotate_left
  · simp only [Act.put, List.setIfInBounds_toArray, List.set_cons_zero, List.set_cons_succ, i64_w, i32_w]
    rfl
  refine pure_ (i := 6) (N := some 24) (v := ?_) (a' := ?_) #[true, true, true, true, true, true, true, false, false] rfl rfl (by kernel_rfl) (fun _ _ _ h => h) (Or.inl ⟨by rfl, ?_⟩) ?_ ?_
  rotate_left
  · intro w'
    go_simp
    with_reducible rfl
  rotate_left
  · simp only [Act.put, List.setIfInBounds_toArray, List.set_cons_zero, List.set_cons_succ, i64_w, i32_w]
    rfl
  refine pure_ (i := 7) (N := some 25) (v := ?_) (a' := ?_) #[true, true, true, true, true, true, true, true, false] rfl rfl (by kernel_rfl) (fun _ _ _ h => h) (Or.inl ⟨by rfl, ?_⟩) ?_ ?_
  rotate_left
  · intro w'
    go_simp
    with_reducible rfl
  rotate_left
  · simp only [Act.put, List.setIfInBounds_toArray, List.set_cons_zero, List.set_cons_succ, i64_w, i32_w]
    rfl
  refine last_ (i := 8) (N := none) #[true, true, true, true, true, true, true, true, true] rfl rfl (by kernel_rfl) (by decide) (fun K hK => ?_)
  refine skip_ (w1 := ?_) (by rfl) rfl ?_ ?_
  rotate_left
  · go_simp
    rfl
  refine hK.out _ _ ?_
  clear hK K
  refine done_ (by kernel_rfl) ?_
  go_wp2
  go_end0
  exact ⟨rfl, F.out⟩
end Go.Proofs.YtponofojildbmaaDoor
