/- The walk of the reference's Trim where it cuts all. -/
import Derived.Test.YtlfimleciemobabRef12D
set_option linter.unusedVariables false
set_option linter.unusedSimpArgs false
namespace Go.Proofs.Ytlfimleciemobab
open Go.RowKit PrintLast

set_option maxHeartbeats 800000 in
theorem rtrim_full {G : Nat → Prop} {w : World} {b o m : Nat} {us : List Ver} {last x : Int} (h : RdAt w G (some ⟨b, o, none⟩) (m + 1) us) (hr : Rising us) (hm : cnt us x = m + 1) (hmu : m < us.length) (hgone : us[m].gone = true) :
    Calls Try.prog 17 #[.agg #[.slice (some ⟨b, o, none⟩) us.length (m + 1), .int .i64 last], .int .i64 x] w fun e w' => e = .returned (.tuple #[.agg #[.slice (some ⟨b, o, none⟩) 0 0, .int .i64 last], .int .i64 ((m : Int) + 1)]) ∧ Below w.heap.size w w' := by
  have hw : RdAt ((w.alloc (.cells #[.slice (some ⟨b, o, none⟩) us.length (m + 1), .int .i64 last] 38)).alloc (.cells #[.slice none 0 0, .int .i64 0] 38)) G (some ⟨b, o, none⟩) (m + 1) us := (h.below ((Below.refl _ w).alloc (Nat.le_refl _) _)).below ((Below.refl _ _).alloc (Nat.le_refl _) _)
  have gw := heap_alloc2_old w (.cells #[.slice (some ⟨b, o, none⟩) us.length (m + 1), .int .i64 last] 38) (.cells #[.slice none 0 0, .int .i64 0] 38)
  have gn := heap_alloc2_new w (.cells #[.slice (some ⟨b, o, none⟩) us.length (m + 1), .int .i64 last] 38) (.cells #[.slice none 0 0, .int .i64 0] 38)
  have S := rseen_any (last := last) (x := x) hw hr
  have hcap := h.1
  have hcm := h.2.1
  unfold maxLen at hcm
  rw [show ((cnt us x : Int) - 1) = (m : Int) by omega] at S
  have HS := hid S
  obtain ⟨b', o', R, d, eA, y0, y1, y2, hrow, hG⟩ := hw.at_ m hmu
  cases eA
  rw [hgone] at y2
  have hmc : m ≤ m + 1 := by omega
  have hle : m + 1 ≤ us.length := hmu
  have h01 : (0 : Int) ≤ (m : Int) + 1 := by omega
  have h02 : (m : Int) + 1 ≤ (us.length : Int) := by omega
  have x0 := cell_at gw (i := 0) (v := .slice (some ⟨b, o, none⟩) us.length (m + 1)) rfl
  have x1 := cell_at gw (i := 1) (v := .int .i64 last) rfl
  clear S hm hgone y0 y1 hrow hG
  go_enter Try.func17, Try.ntmps17
  go_wp2_with fail
  refine HS.out.mono ?_
  rintro e w1 ⟨rfl, hb⟩
  have g0 := below_heap hb gw
  have g1 := below_heap hb gn
  have z0 := cell_at g0 (i := 0) (v := .slice (some ⟨b, o, none⟩) us.length (m + 1)) rfl
  have z1 := cell_at g0 (i := 1) (v := .int .i64 last) rfl
  have n0 := cell_at g1 (i := 0) (v := .slice none 0 0) rfl
  have n1 := cell_at g1 (i := 1) (v := .int .i64 0) rfl
  have f0 := free_at g1 0
  have f1 := free_at g1 1
  have y3 := below_cell hb y2
  have G1 : Hid (((w1.setCell ⟨w.heap.size + 1, 0, none⟩ (.slice (some ⟨b, o, none⟩) 0 0)).setCell ⟨w.heap.size + 1, 1, none⟩ (.int .i64 last)).drew.heap[w.heap.size + 1]? = some (.cells #[.slice (some ⟨b, o, none⟩) 0 0, .int .i64 last] 38 (0, 0))) := hid (by
    show ((w1.setCell ⟨w.heap.size + 1, 0, none⟩ (.slice (some ⟨b, o, none⟩) 0 0)).setCell ⟨w.heap.size + 1, 1, none⟩ (.int .i64 last)).heap[w.heap.size + 1]? = _
    rw [heap_set (heap_set g1)]; simp)
  clear x0 x1 g0 gw gn HS hw y2
  go_wp2
  refine start_ (n := 10) (S := fun w' => w'.cell? ⟨w.heap.size, 0, none⟩ = some (.slice (some ⟨b, o, none⟩) us.length (m + 1)) ∧ w'.cell? ⟨w.heap.size, 1, none⟩ = some (.int .i64 last)) (ds := [8]) #[false, false, false, false, false, false, false, false, false, false] (by kernel_rfl) rfl rfl ⟨z0, z1⟩ (fun hHeld => ?_)
  refine pure_ (i := 0) (N := some 21) (v := ?_) (a' := ?_) #[true, false, false, false, false, false, false, false, false, false] rfl rfl (by kernel_rfl) (fun _ _ _ h => h) (Or.inl ⟨by rfl, ?_⟩) ?_ ?_
  rotate_left
  · intro w'
    go_simp
    with_reducible rfl
  rotate_left
  · simp only [Act.put, List.setIfInBounds_toArray, List.set_cons_zero, List.set_cons_succ, i64_w, i32_w]
    rfl
  refine pure_ (i := 2) (N := some 23) (v := ?_) (a' := ?_) #[true, false, true, false, false, false, false, false, false, false] rfl rfl (by kernel_rfl) (fun _ _ _ h => h) (Or.inl ⟨by rfl, ?_⟩) ?_ ?_
  rotate_left
  · intro w'
    go_simp
    with_reducible rfl
  rotate_left
  · simp only [Act.put, List.setIfInBounds_toArray, List.set_cons_zero, List.set_cons_succ, i64_w, i32_w]
    rfl
  refine pure_ (i := 4) (N := some 25) (v := ?_) (a' := ?_) #[true, false, true, false, true, false, false, false, false, false] rfl rfl (by kernel_rfl) (fun _ _ _ h => h) (Or.inl ⟨by rfl, ?_⟩) ?_ ?_
  rotate_left
  · intro w'
    go_simp
    with_reducible rfl
  rotate_left
  · simp only [Act.put, List.setIfInBounds_toArray, List.set_cons_zero, List.set_cons_succ, i64_w, i32_w]
    rfl
  refine pure_ (i := 7) (N := some 28) (v := ?_) (a' := ?_) #[true, false, true, false, true, false, false, true, false, false] rfl rfl (by kernel_rfl) (fun _ _ _ h => h) (Or.inl ⟨by rfl, ?_⟩) ?_ ?_
  rotate_left
  · intro w'
    go_simp
    with_reducible rfl
  rotate_left
  · simp only [Act.put, List.setIfInBounds_toArray, List.set_cons_zero, List.set_cons_succ, i64_w, i32_w]
    rfl
  refine take_ (i := 1) (N := some 22) (v := ?_) (a' := ?_) #[true, true, true, false, true, false, false, true, false, false] rfl rfl (by kernel_rfl) (fun _ _ _ h => h) (Or.inl ⟨by rfl, ?_⟩) hHeld ?_ ?_
  rotate_left
  · rintro w' ⟨s0, s1⟩
    go_simp
    with_reducible rfl
  rotate_left
  · simp only [Act.put, List.setIfInBounds_toArray, List.set_cons_zero, List.set_cons_succ, i64_w, i32_w]
    rfl
  refine pure_ (i := 3) (N := some 24) (v := ?_) (a' := ?_) #[true, true, true, true, true, false, false, true, false, false] rfl rfl (by kernel_rfl) (fun _ _ _ h => h) (Or.inl ⟨by rfl, ?_⟩) ?_ ?_
  rotate_left
  · intro w'
    go_simp
    with_reducible rfl
  rotate_left
  · simp only [Act.put, List.setIfInBounds_toArray, List.set_cons_zero, List.set_cons_succ, i64_w, i32_w]
    rfl
  refine take_ (i := 5) (N := some 26) (v := ?_) (a' := ?_) #[true, true, true, true, true, true, false, true, false, false] rfl rfl (by kernel_rfl) (fun _ _ _ h => h) (Or.inl ⟨by rfl, ?_⟩) hHeld ?_ ?_
  rotate_left
  · rintro w' ⟨s0, s1⟩
    go_simp
    with_reducible rfl
  rotate_left
  · simp only [Act.put, List.setIfInBounds_toArray, List.set_cons_zero, List.set_cons_succ, i64_w, i32_w]
    rfl
  refine pure_ (i := 6) (N := some 27) (v := ?_) (a' := ?_) #[true, true, true, true, true, true, true, true, false, false] rfl rfl (by kernel_rfl) (fun _ _ _ h => h) (Or.inl ⟨by rfl, ?_⟩) ?_ ?_
  rotate_left
  · intro w'
    go_simp
    with_reducible rfl
  rotate_left
  · simp only [Act.put, List.setIfInBounds_toArray, List.set_cons_zero, List.set_cons_succ, i64_w, i32_w]
    rfl
  refine last_ (i := 8) (N := none) #[true, true, true, true, true, true, true, true, true, false] rfl rfl (by kernel_rfl) (by decide) (fun K hK => ?_)
  refine skip_ (w1 := ?_) (by rfl) rfl ?_ ?_
  rotate_left
  · go_simp
    rfl
  refine hK.out _ _ ?_
  clear hK K
  refine pure_ (i := 9) (N := some 5) (v := ?_) (a' := ?_) #[true, true, true, true, true, true, true, true, true, true] rfl rfl (by kernel_rfl) (fun _ _ _ h => h) (Or.inl ⟨by rfl, ?_⟩) ?_ ?_
  rotate_left
  · intro w'
    go_simp
    with_reducible rfl
  rotate_left
  · simp only [Act.put, List.setIfInBounds_toArray, List.set_cons_zero, List.set_cons_succ, i64_w, i32_w]
    rfl
  refine done_ (by kernel_rfl) ?_
  go_wp2
  refine bodyPost_ret (ret_cell_tmp rfl rfl G1.out Try.underlying38 rfl infoC) rfl ?_
  exact ⟨rfl, (((((Keeps.refl (fun _ => False) w).alloc _).alloc _).below hb).setCell (p := ⟨w.heap.size + 1, 0, none⟩) (fun e => by simp at e; omega) _ |>.setCell (p := ⟨w.heap.size + 1, 1, none⟩) (fun e => by simp at e; omega) _).drew.toBelow⟩
end Go.Proofs.Ytlfimleciemobab
