/- TopSkew's walks: the queue. (printed by gen_qu.py) -/
import Derived.Test.YtnidgljkbmceaaaGreatDoorPn
import Derived.Test.YtnidgljkbmceaaaGreatDoorG17
set_option linter.unusedVariables false
set_option linter.unusedSimpArgs false
namespace Go.Proofs.YtnidgljkbmceaaaGreatDoor
open Go.RowKit PrintLast Go.Maps Go.MapKept
def quC (a b c d f n : Int) : Array Value := #[.int .i64 a, .int .i64 b, .int .i64 c, .int .i64 d, .int .i64 f, .int .i64 n, .int .i64 4]
theorem qw0 : wrap64 0 = 0 := by unfold wrap64; omega
theorem qw1 : wrap64 1 = 1 := by unfold wrap64; omega
theorem qt0 : (0 : Int).tmod 4 = 0 := by decide
theorem qt1 : (1 : Int).tmod 4 = 1 := by decide
section
variable {w : World} {Q : Nat} {a b c d f n : Int}
theorem qlen_any (h : w.heap[Q]? = some (.cells (quC a b c d f n) 160 (0, 0))) : Calls Tryz.prog 153 #[.pointer (some ⟨Q, 0, none⟩)] w fun e w' => e = .returned (.int .i64 n) ∧ w = w' := by
  have c5 := cell_at h (i := 5) (v := .int .i64 n) rfl
  clear h
  go_enter Tryz.func153, Tryz.ntmps153
  go_wp2
  go_ret
  exact ⟨rfl, rfl⟩
theorem qroom_any (h : w.heap[Q]? = some (.cells (quC a b c d f n) 160 (0, 0))) (hn : 0 ≤ n ∧ n ≤ 4) : Calls Tryz.prog 191 #[.pointer (some ⟨Q, 0, none⟩)] w fun e w' => e = .returned (.int .i64 (4 - n)) ∧ Below w.heap.size w w' := by
  have c5 := cell_at h (i := 5) (v := .int .i64 n) rfl
  have c6 := cell_at h (i := 6) (v := .int .i64 4) rfl
  have wm : wrap64 (4 - n) = 4 - n := by unfold wrap64; omega
  clear h
  go_enter Tryz.func191, Tryz.ntmps191
  go_upto_region 3 with fail
  refine start_ (n := 10) (S := fun w' => w'.cell? ⟨Q, 5, none⟩ = some (.int .i64 n) ∧ w'.cell? ⟨Q, 6, none⟩ = some (.int .i64 4)) (ds := []) (tf 10 0) (by kernel_rfl) rfl rfl ⟨c5, c6⟩ (fun hHeld => ?_); refine pure_ (i := 0) (N := some 5) (v := ?_) (a' := ?_) (tf 10 1) rfl rfl (by kernel_rfl) (fun _ _ _ h => h) (Or.inl ⟨by rfl, ?_⟩) ?_ ?_; rotate_left; (· intro w'; go_simp; (with_reducible rfl)); rotate_left; (· simp only [pn_, wm]; rfl); refine pure_ (i := 1) (N := some 6) (v := ?_) (a' := ?_) (tf 10 3) rfl rfl (by kernel_rfl) (fun _ _ _ h => h) (Or.inl ⟨by rfl, ?_⟩) ?_ ?_; rotate_left; (· intro w'; go_simp; (with_reducible rfl)); rotate_left; (· simp only [pn_, wm]; rfl); refine pure_ (i := 2) (N := some 7) (v := ?_) (a' := ?_) (tf 10 7) rfl rfl (by kernel_rfl) (fun _ _ _ h => h) (Or.inl ⟨by rfl, ?_⟩) ?_ ?_; rotate_left; (· intro w'; go_simp; (with_reducible rfl)); rotate_left; (· simp only [pn_, wm]; rfl); refine pure_ (i := 4) (N := some 9) (v := ?_) (a' := ?_) (tf 10 23) rfl rfl (by kernel_rfl) (fun _ _ _ h => h) (Or.inl ⟨by rfl, ?_⟩) ?_ ?_; rotate_left; (· intro w'; go_simp; (with_reducible rfl)); rotate_left; (· simp only [pn_, wm]; rfl); refine pure_ (i := 5) (N := some 10) (v := ?_) (a' := ?_) (tf 10 55) rfl rfl (by kernel_rfl) (fun _ _ _ h => h) (Or.inl ⟨by rfl, ?_⟩) ?_ ?_; rotate_left; (· intro w'; go_simp; (with_reducible rfl)); rotate_left; (· simp only [pn_, wm]; rfl); refine pure_ (i := 6) (N := some 11) (v := ?_) (a' := ?_) (tf 10 119) rfl rfl (by kernel_rfl) (fun _ _ _ h => h) (Or.inl ⟨by rfl, ?_⟩) ?_ ?_; rotate_left; (· intro w'; go_simp; (with_reducible rfl)); rotate_left; (· simp only [pn_, wm]; rfl); refine take_ (i := 3) (N := some 8) (v := ?_) (a' := ?_) (tf 10 127) rfl rfl (by kernel_rfl) (fun _ _ _ h => h) (Or.inl ⟨by rfl, ?_⟩) hHeld ?_ ?_; rotate_left; (· rintro w' ⟨s0, s1⟩; go_simp; (with_reducible rfl)); rotate_left; (· simp only [pn_, wm]; rfl); refine take_ (i := 7) (N := some 12) (v := ?_) (a' := ?_) (tf 10 255) rfl rfl (by kernel_rfl) (fun _ _ _ h => h) (Or.inl ⟨by rfl, ?_⟩) hHeld ?_ ?_; rotate_left; (· rintro w' ⟨s0, s1⟩; go_simp; (with_reducible rfl)); rotate_left; (· simp only [pn_, wm]; rfl); refine pure_ (i := 8) (N := some 13) (v := ?_) (a' := ?_) (tf 10 511) rfl rfl (by kernel_rfl) (fun _ _ _ h => h) (Or.inl ⟨by rfl, ?_⟩) ?_ ?_; rotate_left; (· intro w'; go_simp; (with_reducible rfl)); rotate_left; (· simp only [pn_, wm]; rfl); refine pure_ (i := 9) (N := some 2) (v := ?_) (a' := ?_) (tf 10 1023) rfl rfl (by kernel_rfl) (fun _ _ _ h => h) (Or.inl ⟨by rfl, ?_⟩) ?_ ?_; rotate_left; (· intro w'; go_simp; (with_reducible rfl)); rotate_left; (· simp only [pn_, wm]; rfl); refine done_ (by kernel_rfl) ?_
  go_wp2
  go_ret
  exact ⟨rfl, (Below.refl _ _).drew⟩
end
theorem qnew_any {w : World} : Calls Tryz.prog 38 #[.int .i64 4] w fun e w' => ∃ Q : Nat, e = .returned (.pointer (some ⟨Q, 0, none⟩)) ∧ w'.heap[Q]? = some (.cells (quC 0 0 0 0 0 0) 160 (0, 0)) ∧ w.heap.size ≤ Q ∧ Below w.heap.size w w' := by
  go_enter Tryz.func38, Tryz.ntmps38
  go_wp2
  go_ret
  exact ⟨w.heap.size, rfl, heap_alloc_new _ _, Nat.le_refl _, by go_grown⟩
theorem qhas_none {w : World} {Q : Nat} {a b c d f x : Int} (h : w.heap[Q]? = some (.cells (quC a b c d f 0) 160 (0, 0))) : Calls Tryz.prog 143 #[.pointer (some ⟨Q, 0, none⟩), .int .i64 x] w fun e w' => e = .returned (.bool false) ∧ Below w.heap.size w w' := by
  have HL := hid (qlen_any h)
  clear h
  go_enter Tryz.func143, Tryz.ntmps143
  go_wp2_with fail
  refine HL.out.mono ?_
  rintro e w1 ⟨rfl, rfl⟩
  go_wp2
  refine wp_loop_rounds 1 ?_
  rw [rounds_succ]
  go_wp2
  go_ret
  exact ⟨rfl, Below.refl _ _⟩
theorem qhas_one {w : World} {Q : Nat} {a b c d x : Int} (h : w.heap[Q]? = some (.cells (quC a b c d 0 1) 160 (0, 0))) (hne : a ≠ x) : Calls Tryz.prog 143 #[.pointer (some ⟨Q, 0, none⟩), .int .i64 x] w fun e w' => e = .returned (.bool false) ∧ Below w.heap.size w w' := by
  have HL := hid (qlen_any h)
  have c0 := cell_at h (i := 0) (v := .int .i64 a) rfl
  have c4 := cell_at h (i := 4) (v := .int .i64 0) rfl
  have ne : (a == x) = false := by simpa using hne
  clear h hne
  go_enter Tryz.func143, Tryz.ntmps143
  go_wp2_with fail
  refine HL.out.mono ?_
  rintro e w1 ⟨rfl, rfl⟩
  clear HL
  go_wp2
  refine wp_loop_rounds 2 ?_
  rw [rounds_succ]
  go_upto_region 4 with fail
  refine start_ (n := 14) (S := fun w' => w'.cell? ⟨Q, 0, none⟩ = some (.int .i64 a) ∧ w'.cell? ⟨Q, 4, none⟩ = some (.int .i64 0)) (ds := []) (tf 14 0) (by kernel_rfl) rfl rfl ⟨c0, c4⟩ (fun hHeld => ?_); refine pure_ (i := 0) (N := some 11) (v := ?_) (a' := ?_) (tf 14 1) rfl rfl (by kernel_rfl) (fun _ _ _ h => h) (Or.inl ⟨by rfl, ?_⟩) ?_ ?_; rotate_left; (· intro w'; go_simp; (with_reducible rfl)); rotate_left; (· simp only [pn_, qw0, qw1, qt0, qt1]; rfl); refine pure_ (i := 1) (N := some 12) (v := ?_) (a' := ?_) (tf 14 3) rfl rfl (by kernel_rfl) (fun _ _ _ h => h) (Or.inl ⟨by rfl, ?_⟩) ?_ ?_; rotate_left; (· intro w'; go_simp; (with_reducible rfl)); rotate_left; (· simp only [pn_, qw0, qw1, qt0, qt1]; rfl); refine pure_ (i := 2) (N := some 13) (v := ?_) (a' := ?_) (tf 14 7) rfl rfl (by kernel_rfl) (fun _ _ _ h => h) (Or.inl ⟨by rfl, ?_⟩) ?_ ?_; rotate_left; (· intro w'; go_simp; (with_reducible rfl)); rotate_left; (· simp only [pn_, qw0, qw1, qt0, qt1]; rfl); refine pure_ (i := 3) (N := some 14) (v := ?_) (a' := ?_) (tf 14 15) rfl rfl (by kernel_rfl) (fun _ _ _ h => h) (Or.inl ⟨by rfl, ?_⟩) ?_ ?_; rotate_left; (· intro w'; go_simp; (with_reducible rfl)); rotate_left; (· simp only [pn_, qw0, qw1, qt0, qt1]; rfl); refine pure_ (i := 5) (N := some 16) (v := ?_) (a' := ?_) (tf 14 47) rfl rfl (by kernel_rfl) (fun _ _ _ h => h) (Or.inl ⟨by rfl, ?_⟩) ?_ ?_; rotate_left; (· intro w'; go_simp; (with_reducible rfl)); rotate_left; (· simp only [pn_, qw0, qw1, qt0, qt1]; rfl); refine pure_ (i := 8) (N := some 19) (v := ?_) (a' := ?_) (tf 14 303) rfl rfl (by kernel_rfl) (fun _ _ _ h => h) (Or.inl ⟨by rfl, ?_⟩) ?_ ?_; rotate_left; (· intro w'; go_simp; (with_reducible rfl)); rotate_left; (· simp only [pn_, qw0, qw1, qt0, qt1]; rfl); refine pure_ (i := 9) (N := some 20) (v := ?_) (a' := ?_) (tf 14 815) rfl rfl (by kernel_rfl) (fun _ _ _ h => h) (Or.inl ⟨by rfl, ?_⟩) ?_ ?_; rotate_left; (· intro w'; go_simp; (with_reducible rfl)); rotate_left; (· simp only [pn_, qw0, qw1, qt0, qt1]; rfl); refine pure_ (i := 12) (N := some 23) (v := ?_) (a' := ?_) (tf 14 4911) rfl rfl (by kernel_rfl) (fun _ _ _ h => h) (Or.inl ⟨by rfl, ?_⟩) ?_ ?_; rotate_left; (· intro w'; go_simp; (with_reducible rfl)); rotate_left; (· simp only [pn_, qw0, qw1, qt0, qt1]; rfl); refine take_ (i := 4) (N := some 15) (v := ?_) (a' := ?_) (tf 14 4927) rfl rfl (by kernel_rfl) (fun _ _ _ h => h) (Or.inl ⟨by rfl, ?_⟩) hHeld ?_ ?_; rotate_left; (· rintro w' ⟨s0, s1⟩; go_simp; (with_reducible rfl)); rotate_left; (· simp only [pn_, qw0, qw1, qt0, qt1]; rfl); refine pure_ (i := 6) (N := some 17) (v := ?_) (a' := ?_) (tf 14 4991) rfl rfl (by kernel_rfl) (fun _ _ _ h => h) (Or.inl ⟨by rfl, ?_⟩) ?_ ?_; rotate_left; (· intro w'; go_simp; (with_reducible rfl)); rotate_left; (· simp only [pn_, qw0, qw1, qt0, qt1]; rfl); refine pure_ (i := 7) (N := some 18) (v := ?_) (a' := ?_) (tf 14 5119) rfl rfl (by kernel_rfl) (fun _ _ _ h => h) (Or.inl ⟨by rfl, ?_⟩) ?_ ?_; rotate_left; (· intro w'; go_simp; (with_reducible rfl)); rotate_left; (· simp only [pn_, qw0, qw1, qt0, qt1]; rfl); refine pure_ (i := 10) (N := some 21) (v := ?_) (a' := ?_) (tf 14 6143) rfl rfl (by kernel_rfl) (fun _ _ _ h => h) (Or.inl ⟨by rfl, ?_⟩) ?_ ?_; rotate_left; (· intro w'; go_simp; (with_reducible rfl)); rotate_left; (· simp only [pn_, qw0, qw1, qt0, qt1]; rfl); refine take_ (i := 11) (N := some 22) (v := ?_) (a' := ?_) (tf 14 8191) rfl rfl (by kernel_rfl) (fun _ _ _ h => h) (Or.inl ⟨by rfl, ?_⟩) hHeld ?_ ?_; rotate_left; (· rintro w' ⟨s0, s1⟩; go_simp; (with_reducible rfl)); rotate_left; (· simp only [pn_, qw0, qw1, qt0, qt1]; rfl); refine pure_ (i := 13) (N := some 24) (v := ?_) (a' := ?_) (tf 14 16383) rfl rfl (by kernel_rfl) (fun _ _ _ h => h) (Or.inl ⟨by rfl, ?_⟩) ?_ ?_; rotate_left; (· intro w'; go_simp; (with_reducible rfl)); rotate_left; (· simp only [pn_, qw0, qw1, qt0, qt1]; rfl); refine done_ (by kernel_rfl) ?_
  go_wp2
  rw [rounds_succ]
  go_wp2
  go_ret
  exact ⟨rfl, (Below.refl _ _).drew⟩
set_option maxRecDepth 100000 in
set_option maxHeartbeats 1600000 in
theorem qpush_00 {w : World} {Q : Nat} {a b c d x : Int} (h : w.heap[Q]? = some (.cells (quC a b c d 0 0) 160 (0, 0))) : Calls Tryz.prog 145 #[.pointer (some ⟨Q, 0, none⟩), .int .i64 x] w fun e w' => e = .returned (.bool true) ∧ w'.heap[Q]? = some (.cells (quC x b c d 0 1) 160 (0, 0)) ∧ KB [Q] [160] [] [] w w' := by
  have HR := hid (qroom_any h (by omega))
  have HH := hid h
  clear h
  go_enter Tryz.func145, Tryz.ntmps145
  go_wp2_with fail
  refine HR.out.mono ?_
  rintro e w1 ⟨rfl, b1⟩
  have h := below_heap b1 HH.out
  have c4 := cell_at h (i := 4) (v := .int .i64 0) rfl
  have c5 := cell_at h (i := 5) (v := .int .i64 0) rfl
  have c0 := cell_at h (i := 0) (v := .int .i64 a) rfl
  have f0 := free_at h 0
  have H1 := hid (And.intro h b1)
  clear HR b1 h
  go_upto_region 3 with fail
  refine start_ (n := 16) (S := fun w' => w'.cell? ⟨Q, 4, none⟩ = some (.int .i64 0) ∧ w'.cell? ⟨Q, 5, none⟩ = some (.int .i64 0)) (ds := [15]) (tf 16 0) (by kernel_rfl) rfl rfl ⟨c4, c5⟩ (fun hHeld => ?_); refine pure_ (i := 0) (N := some 8) (v := ?_) (a' := ?_) (tf 16 1) rfl rfl (by kernel_rfl) (fun _ _ _ h => h) (Or.inl ⟨by rfl, ?_⟩) ?_ ?_; rotate_left; (· intro w'; go_simp; (with_reducible rfl)); rotate_left; (· simp only [pn_, qw0, qw1, qt0, qt1]; rfl); refine pure_ (i := 1) (N := some 9) (v := ?_) (a' := ?_) (tf 16 3) rfl rfl (by kernel_rfl) (fun _ _ _ h => h) (Or.inl ⟨by rfl, ?_⟩) ?_ ?_; rotate_left; (· intro w'; go_simp; (with_reducible rfl)); rotate_left; (· simp only [pn_, qw0, qw1, qt0, qt1]; rfl); refine pure_ (i := 2) (N := some 10) (v := ?_) (a' := ?_) (tf 16 7) rfl rfl (by kernel_rfl) (fun _ _ _ h => h) (Or.inl ⟨by rfl, ?_⟩) ?_ ?_; rotate_left; (· intro w'; go_simp; (with_reducible rfl)); rotate_left; (· simp only [pn_, qw0, qw1, qt0, qt1]; rfl); refine pure_ (i := 3) (N := some 11) (v := ?_) (a' := ?_) (tf 16 15) rfl rfl (by kernel_rfl) (fun _ _ _ h => h) (Or.inl ⟨by rfl, ?_⟩) ?_ ?_; rotate_left; (· intro w'; go_simp; (with_reducible rfl)); rotate_left; (· simp only [pn_, qw0, qw1, qt0, qt1]; rfl); refine pure_ (i := 5) (N := some 13) (v := ?_) (a' := ?_) (tf 16 47) rfl rfl (by kernel_rfl) (fun _ _ _ h => h) (Or.inl ⟨by rfl, ?_⟩) ?_ ?_; rotate_left; (· intro w'; go_simp; (with_reducible rfl)); rotate_left; (· simp only [pn_, qw0, qw1, qt0, qt1]; rfl); refine pure_ (i := 6) (N := some 14) (v := ?_) (a' := ?_) (tf 16 111) rfl rfl (by kernel_rfl) (fun _ _ _ h => h) (Or.inl ⟨by rfl, ?_⟩) ?_ ?_; rotate_left; (· intro w'; go_simp; (with_reducible rfl)); rotate_left; (· simp only [pn_, qw0, qw1, qt0, qt1]; rfl); refine pure_ (i := 7) (N := some 15) (v := ?_) (a' := ?_) (tf 16 239) rfl rfl (by kernel_rfl) (fun _ _ _ h => h) (Or.inl ⟨by rfl, ?_⟩) ?_ ?_; rotate_left; (· intro w'; go_simp; (with_reducible rfl)); rotate_left; (· simp only [pn_, qw0, qw1, qt0, qt1]; rfl); refine pure_ (i := 11) (N := some 19) (v := ?_) (a' := ?_) (tf 16 2287) rfl rfl (by kernel_rfl) (fun _ _ _ h => h) (Or.inl ⟨by rfl, ?_⟩) ?_ ?_; rotate_left; (· intro w'; go_simp; (with_reducible rfl)); rotate_left; (· simp only [pn_, qw0, qw1, qt0, qt1]; rfl); refine pure_ (i := 12) (N := some 20) (v := ?_) (a' := ?_) (tf 16 6383) rfl rfl (by kernel_rfl) (fun _ _ _ h => h) (Or.inl ⟨by rfl, ?_⟩) ?_ ?_; rotate_left; (· intro w'; go_simp; (with_reducible rfl)); rotate_left; (· simp only [pn_, qw0, qw1, qt0, qt1]; rfl); refine pure_ (i := 13) (N := some 21) (v := ?_) (a' := ?_) (tf 16 14575) rfl rfl (by kernel_rfl) (fun _ _ _ h => h) (Or.inl ⟨by rfl, ?_⟩) ?_ ?_; rotate_left; (· intro w'; go_simp; (with_reducible rfl)); rotate_left; (· simp only [pn_, qw0, qw1, qt0, qt1]; rfl); refine take_ (i := 4) (N := some 12) (v := ?_) (a' := ?_) (tf 16 14591) rfl rfl (by kernel_rfl) (fun _ _ _ h => h) (Or.inl ⟨by rfl, ?_⟩) hHeld ?_ ?_; rotate_left; (· rintro w' ⟨s0, s1⟩; go_simp; (with_reducible rfl)); rotate_left; (· simp only [pn_, qw0, qw1, qt0, qt1]; rfl); refine take_ (i := 8) (N := some 16) (v := ?_) (a' := ?_) (tf 16 14847) rfl rfl (by kernel_rfl) (fun _ _ _ h => h) (Or.inl ⟨by rfl, ?_⟩) hHeld ?_ ?_; rotate_left; (· rintro w' ⟨s0, s1⟩; go_simp; (with_reducible rfl)); rotate_left; (· simp only [pn_, qw0, qw1, qt0, qt1]; rfl); refine pure_ (i := 9) (N := some 17) (v := ?_) (a' := ?_) (tf 16 15359) rfl rfl (by kernel_rfl) (fun _ _ _ h => h) (Or.inl ⟨by rfl, ?_⟩) ?_ ?_; rotate_left; (· intro w'; go_simp; (with_reducible rfl)); rotate_left; (· simp only [pn_, qw0, qw1, qt0, qt1]; rfl); refine pure_ (i := 10) (N := some 18) (v := ?_) (a' := ?_) (tf 16 16383) rfl rfl (by kernel_rfl) (fun _ _ _ h => h) (Or.inl ⟨by rfl, ?_⟩) ?_ ?_; rotate_left; (· intro w'; go_simp; (with_reducible rfl)); rotate_left; (· simp only [pn_, qw0, qw1, qt0, qt1]; rfl); refine pure_ (i := 14) (N := some 22) (v := ?_) (a' := ?_) (tf 16 32767) rfl rfl (by kernel_rfl) (fun _ _ _ h => h) (Or.inl ⟨by rfl, ?_⟩) ?_ ?_; rotate_left; (· intro w'; go_simp; (with_reducible rfl)); rotate_left; (· simp only [pn_, qw0, qw1, qt0, qt1]; rfl); refine last_ (i := 15) (N := none) (tf 16 65535) rfl rfl (by kernel_rfl) (by decide) (fun K hK => ?_); refine skip_ (w1 := ?_) (by rfl) rfl ?_ ?_; rotate_left; (· go_simp; rfl); refine hK.out _ _ ?_; clear hK K; refine done_ (by kernel_rfl) ?_
  have kb : KB [Q] [160] [] [] w (w1.setCell ⟨Q, 0, none⟩ (.int .i64 x)).drew := (KB.set (p := ⟨Q, 0, none⟩) (KB.of_below H1.out.2) HH.out (by simp) (by simp) _).drew
  have h2 : (w1.setCell ⟨Q, 0, none⟩ (.int .i64 x)).drew.heap[Q]? = some (.cells (quC x b c d 0 0) 160 (0, 0)) := (heap_set H1.out.1).trans rfl
  obtain ⟨w2, hw2⟩ : ∃ y, y = (w1.setCell ⟨Q, 0, none⟩ (.int .i64 x)).drew := ⟨_, rfl⟩
  rw [← hw2] at kb h2 ⊢
  have d5 := cell_at h2 (i := 5) (v := .int .i64 0) rfl
  have g5 := free_at h2 5
  have FF := hid (And.intro kb h2)
  clear kb h2 hw2 c4 c5 c0 f0
  go_wp2
  go_ret
  exact ⟨rfl, by rw [heap_set FF.out.2]; rfl, KB.set (p := ⟨Q, 5, none⟩) FF.out.1 HH.out (by simp) (by simp) _⟩
set_option maxRecDepth 100000 in
set_option maxHeartbeats 1600000 in
theorem qpush_01 {w : World} {Q : Nat} {a b c d x : Int} (h : w.heap[Q]? = some (.cells (quC a b c d 0 1) 160 (0, 0))) : Calls Tryz.prog 145 #[.pointer (some ⟨Q, 0, none⟩), .int .i64 x] w fun e w' => e = .returned (.bool true) ∧ w'.heap[Q]? = some (.cells (quC a x c d 0 2) 160 (0, 0)) ∧ KB [Q] [160] [] [] w w' := by
  have HR := hid (qroom_any h (by omega))
  have HH := hid h
  clear h
  go_enter Tryz.func145, Tryz.ntmps145
  go_wp2_with fail
  refine HR.out.mono ?_
  rintro e w1 ⟨rfl, b1⟩
  have h := below_heap b1 HH.out
  have c4 := cell_at h (i := 4) (v := .int .i64 0) rfl
  have c5 := cell_at h (i := 5) (v := .int .i64 1) rfl
  have c0 := cell_at h (i := 1) (v := .int .i64 b) rfl
  have f0 := free_at h 1
  have H1 := hid (And.intro h b1)
  clear HR b1 h
  go_upto_region 3 with fail
  refine start_ (n := 16) (S := fun w' => w'.cell? ⟨Q, 4, none⟩ = some (.int .i64 0) ∧ w'.cell? ⟨Q, 5, none⟩ = some (.int .i64 1)) (ds := [15]) (tf 16 0) (by kernel_rfl) rfl rfl ⟨c4, c5⟩ (fun hHeld => ?_); refine pure_ (i := 0) (N := some 8) (v := ?_) (a' := ?_) (tf 16 1) rfl rfl (by kernel_rfl) (fun _ _ _ h => h) (Or.inl ⟨by rfl, ?_⟩) ?_ ?_; rotate_left; (· intro w'; go_simp; (with_reducible rfl)); rotate_left; (· simp only [pn_, qw0, qw1, qt0, qt1]; rfl); refine pure_ (i := 1) (N := some 9) (v := ?_) (a' := ?_) (tf 16 3) rfl rfl (by kernel_rfl) (fun _ _ _ h => h) (Or.inl ⟨by rfl, ?_⟩) ?_ ?_; rotate_left; (· intro w'; go_simp; (with_reducible rfl)); rotate_left; (· simp only [pn_, qw0, qw1, qt0, qt1]; rfl); refine pure_ (i := 2) (N := some 10) (v := ?_) (a' := ?_) (tf 16 7) rfl rfl (by kernel_rfl) (fun _ _ _ h => h) (Or.inl ⟨by rfl, ?_⟩) ?_ ?_; rotate_left; (· intro w'; go_simp; (with_reducible rfl)); rotate_left; (· simp only [pn_, qw0, qw1, qt0, qt1]; rfl); refine pure_ (i := 3) (N := some 11) (v := ?_) (a' := ?_) (tf 16 15) rfl rfl (by kernel_rfl) (fun _ _ _ h => h) (Or.inl ⟨by rfl, ?_⟩) ?_ ?_; rotate_left; (· intro w'; go_simp; (with_reducible rfl)); rotate_left; (· simp only [pn_, qw0, qw1, qt0, qt1]; rfl); refine pure_ (i := 5) (N := some 13) (v := ?_) (a' := ?_) (tf 16 47) rfl rfl (by kernel_rfl) (fun _ _ _ h => h) (Or.inl ⟨by rfl, ?_⟩) ?_ ?_; rotate_left; (· intro w'; go_simp; (with_reducible rfl)); rotate_left; (· simp only [pn_, qw0, qw1, qt0, qt1]; rfl); refine pure_ (i := 6) (N := some 14) (v := ?_) (a' := ?_) (tf 16 111) rfl rfl (by kernel_rfl) (fun _ _ _ h => h) (Or.inl ⟨by rfl, ?_⟩) ?_ ?_; rotate_left; (· intro w'; go_simp; (with_reducible rfl)); rotate_left; (· simp only [pn_, qw0, qw1, qt0, qt1]; rfl); refine pure_ (i := 7) (N := some 15) (v := ?_) (a' := ?_) (tf 16 239) rfl rfl (by kernel_rfl) (fun _ _ _ h => h) (Or.inl ⟨by rfl, ?_⟩) ?_ ?_; rotate_left; (· intro w'; go_simp; (with_reducible rfl)); rotate_left; (· simp only [pn_, qw0, qw1, qt0, qt1]; rfl); refine pure_ (i := 11) (N := some 19) (v := ?_) (a' := ?_) (tf 16 2287) rfl rfl (by kernel_rfl) (fun _ _ _ h => h) (Or.inl ⟨by rfl, ?_⟩) ?_ ?_; rotate_left; (· intro w'; go_simp; (with_reducible rfl)); rotate_left; (· simp only [pn_, qw0, qw1, qt0, qt1]; rfl); refine pure_ (i := 12) (N := some 20) (v := ?_) (a' := ?_) (tf 16 6383) rfl rfl (by kernel_rfl) (fun _ _ _ h => h) (Or.inl ⟨by rfl, ?_⟩) ?_ ?_; rotate_left; (· intro w'; go_simp; (with_reducible rfl)); rotate_left; (· simp only [pn_, qw0, qw1, qt0, qt1]; rfl); refine pure_ (i := 13) (N := some 21) (v := ?_) (a' := ?_) (tf 16 14575) rfl rfl (by kernel_rfl) (fun _ _ _ h => h) (Or.inl ⟨by rfl, ?_⟩) ?_ ?_; rotate_left; (· intro w'; go_simp; (with_reducible rfl)); rotate_left; (· simp only [pn_, qw0, qw1, qt0, qt1]; rfl); refine take_ (i := 4) (N := some 12) (v := ?_) (a' := ?_) (tf 16 14591) rfl rfl (by kernel_rfl) (fun _ _ _ h => h) (Or.inl ⟨by rfl, ?_⟩) hHeld ?_ ?_; rotate_left; (· rintro w' ⟨s0, s1⟩; go_simp; (with_reducible rfl)); rotate_left; (· simp only [pn_, qw0, qw1, qt0, qt1]; rfl); refine take_ (i := 8) (N := some 16) (v := ?_) (a' := ?_) (tf 16 14847) rfl rfl (by kernel_rfl) (fun _ _ _ h => h) (Or.inl ⟨by rfl, ?_⟩) hHeld ?_ ?_; rotate_left; (· rintro w' ⟨s0, s1⟩; go_simp; (with_reducible rfl)); rotate_left; (· simp only [pn_, qw0, qw1, qt0, qt1]; rfl); refine pure_ (i := 9) (N := some 17) (v := ?_) (a' := ?_) (tf 16 15359) rfl rfl (by kernel_rfl) (fun _ _ _ h => h) (Or.inl ⟨by rfl, ?_⟩) ?_ ?_; rotate_left; (· intro w'; go_simp; (with_reducible rfl)); rotate_left; (· simp only [pn_, qw0, qw1, qt0, qt1]; rfl); refine pure_ (i := 10) (N := some 18) (v := ?_) (a' := ?_) (tf 16 16383) rfl rfl (by kernel_rfl) (fun _ _ _ h => h) (Or.inl ⟨by rfl, ?_⟩) ?_ ?_; rotate_left; (· intro w'; go_simp; (with_reducible rfl)); rotate_left; (· simp only [pn_, qw0, qw1, qt0, qt1]; rfl); refine pure_ (i := 14) (N := some 22) (v := ?_) (a' := ?_) (tf 16 32767) rfl rfl (by kernel_rfl) (fun _ _ _ h => h) (Or.inl ⟨by rfl, ?_⟩) ?_ ?_; rotate_left; (· intro w'; go_simp; (with_reducible rfl)); rotate_left; (· simp only [pn_, qw0, qw1, qt0, qt1]; rfl); refine last_ (i := 15) (N := none) (tf 16 65535) rfl rfl (by kernel_rfl) (by decide) (fun K hK => ?_); refine skip_ (w1 := ?_) (by rfl) rfl ?_ ?_; rotate_left; (· go_simp; rfl); refine hK.out _ _ ?_; clear hK K; refine done_ (by kernel_rfl) ?_
  have kb : KB [Q] [160] [] [] w (w1.setCell ⟨Q, 1, none⟩ (.int .i64 x)).drew := (KB.set (p := ⟨Q, 1, none⟩) (KB.of_below H1.out.2) HH.out (by simp) (by simp) _).drew
  have h2 : (w1.setCell ⟨Q, 1, none⟩ (.int .i64 x)).drew.heap[Q]? = some (.cells (quC a x c d 0 1) 160 (0, 0)) := (heap_set H1.out.1).trans rfl
  obtain ⟨w2, hw2⟩ : ∃ y, y = (w1.setCell ⟨Q, 1, none⟩ (.int .i64 x)).drew := ⟨_, rfl⟩
  rw [← hw2] at kb h2 ⊢
  have d5 := cell_at h2 (i := 5) (v := .int .i64 1) rfl
  have g5 := free_at h2 5
  have FF := hid (And.intro kb h2)
  clear kb h2 hw2 c4 c5 c0 f0
  go_wp2
  go_ret
  exact ⟨rfl, by rw [heap_set FF.out.2]; rfl, KB.set (p := ⟨Q, 5, none⟩) FF.out.1 HH.out (by simp) (by simp) _⟩
set_option maxRecDepth 100000 in
set_option maxHeartbeats 1600000 in
theorem qpush_10 {w : World} {Q : Nat} {a b c d x : Int} (h : w.heap[Q]? = some (.cells (quC a b c d 1 0) 160 (0, 0))) : Calls Tryz.prog 145 #[.pointer (some ⟨Q, 0, none⟩), .int .i64 x] w fun e w' => e = .returned (.bool true) ∧ w'.heap[Q]? = some (.cells (quC a x c d 1 1) 160 (0, 0)) ∧ KB [Q] [160] [] [] w w' := by
  have HR := hid (qroom_any h (by omega))
  have HH := hid h
  clear h
  go_enter Tryz.func145, Tryz.ntmps145
  go_wp2_with fail
  refine HR.out.mono ?_
  rintro e w1 ⟨rfl, b1⟩
  have h := below_heap b1 HH.out
  have c4 := cell_at h (i := 4) (v := .int .i64 1) rfl
  have c5 := cell_at h (i := 5) (v := .int .i64 0) rfl
  have c0 := cell_at h (i := 1) (v := .int .i64 b) rfl
  have f0 := free_at h 1
  have H1 := hid (And.intro h b1)
  clear HR b1 h
  go_upto_region 3 with fail
  refine start_ (n := 16) (S := fun w' => w'.cell? ⟨Q, 4, none⟩ = some (.int .i64 1) ∧ w'.cell? ⟨Q, 5, none⟩ = some (.int .i64 0)) (ds := [15]) (tf 16 0) (by kernel_rfl) rfl rfl ⟨c4, c5⟩ (fun hHeld => ?_); refine pure_ (i := 0) (N := some 8) (v := ?_) (a' := ?_) (tf 16 1) rfl rfl (by kernel_rfl) (fun _ _ _ h => h) (Or.inl ⟨by rfl, ?_⟩) ?_ ?_; rotate_left; (· intro w'; go_simp; (with_reducible rfl)); rotate_left; (· simp only [pn_, qw0, qw1, qt0, qt1]; rfl); refine pure_ (i := 1) (N := some 9) (v := ?_) (a' := ?_) (tf 16 3) rfl rfl (by kernel_rfl) (fun _ _ _ h => h) (Or.inl ⟨by rfl, ?_⟩) ?_ ?_; rotate_left; (· intro w'; go_simp; (with_reducible rfl)); rotate_left; (· simp only [pn_, qw0, qw1, qt0, qt1]; rfl); refine pure_ (i := 2) (N := some 10) (v := ?_) (a' := ?_) (tf 16 7) rfl rfl (by kernel_rfl) (fun _ _ _ h => h) (Or.inl ⟨by rfl, ?_⟩) ?_ ?_; rotate_left; (· intro w'; go_simp; (with_reducible rfl)); rotate_left; (· simp only [pn_, qw0, qw1, qt0, qt1]; rfl); refine pure_ (i := 3) (N := some 11) (v := ?_) (a' := ?_) (tf 16 15) rfl rfl (by kernel_rfl) (fun _ _ _ h => h) (Or.inl ⟨by rfl, ?_⟩) ?_ ?_; rotate_left; (· intro w'; go_simp; (with_reducible rfl)); rotate_left; (· simp only [pn_, qw0, qw1, qt0, qt1]; rfl); refine pure_ (i := 5) (N := some 13) (v := ?_) (a' := ?_) (tf 16 47) rfl rfl (by kernel_rfl) (fun _ _ _ h => h) (Or.inl ⟨by rfl, ?_⟩) ?_ ?_; rotate_left; (· intro w'; go_simp; (with_reducible rfl)); rotate_left; (· simp only [pn_, qw0, qw1, qt0, qt1]; rfl); refine pure_ (i := 6) (N := some 14) (v := ?_) (a' := ?_) (tf 16 111) rfl rfl (by kernel_rfl) (fun _ _ _ h => h) (Or.inl ⟨by rfl, ?_⟩) ?_ ?_; rotate_left; (· intro w'; go_simp; (with_reducible rfl)); rotate_left; (· simp only [pn_, qw0, qw1, qt0, qt1]; rfl); refine pure_ (i := 7) (N := some 15) (v := ?_) (a' := ?_) (tf 16 239) rfl rfl (by kernel_rfl) (fun _ _ _ h => h) (Or.inl ⟨by rfl, ?_⟩) ?_ ?_; rotate_left; (· intro w'; go_simp; (with_reducible rfl)); rotate_left; (· simp only [pn_, qw0, qw1, qt0, qt1]; rfl); refine pure_ (i := 11) (N := some 19) (v := ?_) (a' := ?_) (tf 16 2287) rfl rfl (by kernel_rfl) (fun _ _ _ h => h) (Or.inl ⟨by rfl, ?_⟩) ?_ ?_; rotate_left; (· intro w'; go_simp; (with_reducible rfl)); rotate_left; (· simp only [pn_, qw0, qw1, qt0, qt1]; rfl); refine pure_ (i := 12) (N := some 20) (v := ?_) (a' := ?_) (tf 16 6383) rfl rfl (by kernel_rfl) (fun _ _ _ h => h) (Or.inl ⟨by rfl, ?_⟩) ?_ ?_; rotate_left; (· intro w'; go_simp; (with_reducible rfl)); rotate_left; (· simp only [pn_, qw0, qw1, qt0, qt1]; rfl); refine pure_ (i := 13) (N := some 21) (v := ?_) (a' := ?_) (tf 16 14575) rfl rfl (by kernel_rfl) (fun _ _ _ h => h) (Or.inl ⟨by rfl, ?_⟩) ?_ ?_; rotate_left; (· intro w'; go_simp; (with_reducible rfl)); rotate_left; (· simp only [pn_, qw0, qw1, qt0, qt1]; rfl); refine take_ (i := 4) (N := some 12) (v := ?_) (a' := ?_) (tf 16 14591) rfl rfl (by kernel_rfl) (fun _ _ _ h => h) (Or.inl ⟨by rfl, ?_⟩) hHeld ?_ ?_; rotate_left; (· rintro w' ⟨s0, s1⟩; go_simp; (with_reducible rfl)); rotate_left; (· simp only [pn_, qw0, qw1, qt0, qt1]; rfl); refine take_ (i := 8) (N := some 16) (v := ?_) (a' := ?_) (tf 16 14847) rfl rfl (by kernel_rfl) (fun _ _ _ h => h) (Or.inl ⟨by rfl, ?_⟩) hHeld ?_ ?_; rotate_left; (· rintro w' ⟨s0, s1⟩; go_simp; (with_reducible rfl)); rotate_left; (· simp only [pn_, qw0, qw1, qt0, qt1]; rfl); refine pure_ (i := 9) (N := some 17) (v := ?_) (a' := ?_) (tf 16 15359) rfl rfl (by kernel_rfl) (fun _ _ _ h => h) (Or.inl ⟨by rfl, ?_⟩) ?_ ?_; rotate_left; (· intro w'; go_simp; (with_reducible rfl)); rotate_left; (· simp only [pn_, qw0, qw1, qt0, qt1]; rfl); refine pure_ (i := 10) (N := some 18) (v := ?_) (a' := ?_) (tf 16 16383) rfl rfl (by kernel_rfl) (fun _ _ _ h => h) (Or.inl ⟨by rfl, ?_⟩) ?_ ?_; rotate_left; (· intro w'; go_simp; (with_reducible rfl)); rotate_left; (· simp only [pn_, qw0, qw1, qt0, qt1]; rfl); refine pure_ (i := 14) (N := some 22) (v := ?_) (a' := ?_) (tf 16 32767) rfl rfl (by kernel_rfl) (fun _ _ _ h => h) (Or.inl ⟨by rfl, ?_⟩) ?_ ?_; rotate_left; (· intro w'; go_simp; (with_reducible rfl)); rotate_left; (· simp only [pn_, qw0, qw1, qt0, qt1]; rfl); refine last_ (i := 15) (N := none) (tf 16 65535) rfl rfl (by kernel_rfl) (by decide) (fun K hK => ?_); refine skip_ (w1 := ?_) (by rfl) rfl ?_ ?_; rotate_left; (· go_simp; rfl); refine hK.out _ _ ?_; clear hK K; refine done_ (by kernel_rfl) ?_
  have kb : KB [Q] [160] [] [] w (w1.setCell ⟨Q, 1, none⟩ (.int .i64 x)).drew := (KB.set (p := ⟨Q, 1, none⟩) (KB.of_below H1.out.2) HH.out (by simp) (by simp) _).drew
  have h2 : (w1.setCell ⟨Q, 1, none⟩ (.int .i64 x)).drew.heap[Q]? = some (.cells (quC a x c d 1 0) 160 (0, 0)) := (heap_set H1.out.1).trans rfl
  obtain ⟨w2, hw2⟩ : ∃ y, y = (w1.setCell ⟨Q, 1, none⟩ (.int .i64 x)).drew := ⟨_, rfl⟩
  rw [← hw2] at kb h2 ⊢
  have d5 := cell_at h2 (i := 5) (v := .int .i64 0) rfl
  have g5 := free_at h2 5
  have FF := hid (And.intro kb h2)
  clear kb h2 hw2 c4 c5 c0 f0
  go_wp2
  go_ret
  exact ⟨rfl, by rw [heap_set FF.out.2]; rfl, KB.set (p := ⟨Q, 5, none⟩) FF.out.1 HH.out (by simp) (by simp) _⟩
theorem infoInt : (Tryz.prog.info? 3).map (fun i => (i.zero, i.size, i.bytes)) = some (some (.int .i64 0), 1, 8) := by kernel_rfl
theorem KB.grownNew {bs : List Nat} {ts : List TypeId} {ms rs : List Nat} {a w w' : World} (h : KB bs ts ms rs a w) {row : Option Nat} (hg : w.grownBy w' row) (hr : ∀ k, row = some k → a.heap.size ≤ k) : KB bs ts ms rs a w' :=
  ⟨h.1.grownNew hg hr, fun B hB hm => (h.2 B hB hm).grown hg (Nat.le_trans hB h.1.size) (fun k e => Nat.le_trans hB (hr k e))⟩
theorem own_none (w : World) (e : TypeId) (size : Nat) : w.ownsRow 0 e size (.slice none 0 0) 0 [] := ⟨by simp, .inl ⟨rfl, rfl⟩⟩
set_option maxRecDepth 100000 in
set_option maxHeartbeats 1600000 in
theorem qpop_01 {w : World} {Q : Nat} {a b c d : Int} (h : w.heap[Q]? = some (.cells (quC a b c d 0 1) 160 (0, 0))) : Calls Tryz.prog 85 #[.pointer (some ⟨Q, 0, none⟩), .int .i64 3] w fun e w' => ∃ g c', e = .returned (.slice (some ⟨g, 0, none⟩) 1 c') ∧ w'.ownsRow 0 3 1 (.slice (some ⟨g, 0, none⟩) 1 c') 1 [.int .i64 a] ∧ w.heap.size ≤ g ∧ w'.heap[Q]? = some (.cells (quC a b c d 1 0) 160 (0, 0)) ∧ KB [Q] [160] [] [] w w' := by
  obtain ⟨w0, hw0⟩ : ∃ y, y = w := ⟨_, rfl⟩
  rw [← hw0] at h ⊢
  have HQ0 := hid h
  have H0 := hid (And.intro (KB.refl [Q] [160] [] [] w0) h)
  have OW0 := hid (And.intro (own_none w0 3 1) trivial)
  clear h hw0
  go_enter Tryz.func85, Tryz.ntmps85
  go_wp2
  refine wp_loop_rounds 2 ?_
  rw [rounds_succ]
  have c4 := cell_at H0.out.2 (i := 4) (v := .int .i64 0) rfl
  have c5 := cell_at H0.out.2 (i := 5) (v := .int .i64 1) rfl
  have c0 := cell_at H0.out.2 (i := 0) (v := .int .i64 a) rfl
  have HL := hid (qlen_any H0.out.2)
  go_wp2_with fail
  refine HL.out.mono ?_
  rintro e _ ⟨rfl, rfl⟩
  clear HL
  obtain ⟨i0, hi, hz0, hz1, hz2⟩ := info_parts infoInt
  go_upto_region 3 with fail
  refine start_ (n := 13) (S := fun w' => w'.cell? ⟨Q, 4, none⟩ = some (.int .i64 0) ∧ w'.cell? ⟨Q, 0, none⟩ = some (.int .i64 a) ∧ Below w0.heap.size w0 w') (ds := [11]) (tf 13 0) (by kernel_rfl) rfl rfl ⟨c4, c0, (Below.refl w0.heap.size w0).drew⟩ (fun hHeld => ?_); refine pure_ (i := 0) (N := some 15) (v := ?_) (a' := ?_) (tf 13 1) rfl rfl (by kernel_rfl) (fun _ _ _ h => h) (Or.inl ⟨by rfl, ?_⟩) ?_ ?_; rotate_left; (· intro w'; go_simp; (with_reducible rfl)); rotate_left; (· simp only [pn_]; rfl); refine pure_ (i := 1) (N := some 16) (v := ?_) (a' := ?_) (tf 13 3) rfl rfl (by kernel_rfl) (fun _ _ _ h => h) (Or.inl ⟨by rfl, ?_⟩) ?_ ?_; rotate_left; (· intro w'; go_simp; (with_reducible rfl)); rotate_left; (· simp only [pn_]; rfl); refine pure_ (i := 2) (N := some 17) (v := ?_) (a' := ?_) (tf 13 7) rfl rfl (by kernel_rfl) (fun _ _ _ h => h) (Or.inl ⟨by rfl, ?_⟩) ?_ ?_; rotate_left; (· intro w'; go_simp; (with_reducible rfl)); rotate_left; (· simp only [pn_]; rfl); refine pure_ (i := 3) (N := some 18) (v := ?_) (a' := ?_) (tf 13 15) rfl rfl (by kernel_rfl) (fun _ _ _ h => h) (Or.inl ⟨by rfl, ?_⟩) ?_ ?_; rotate_left; (· intro w'; go_simp; (with_reducible rfl)); rotate_left; (· simp only [pn_]; rfl); refine pure_ (i := 4) (N := some 19) (v := ?_) (a' := ?_) (tf 13 31) rfl rfl (by kernel_rfl) (fun _ _ _ h => h) (Or.inl ⟨by rfl, ?_⟩) ?_ ?_; rotate_left; (· intro w'; go_simp; (with_reducible rfl)); rotate_left; (· simp only [pn_]; rfl); refine pure_ (i := 6) (N := some 21) (v := ?_) (a' := ?_) (tf 13 95) rfl rfl (by kernel_rfl) (fun _ _ _ h => h) (Or.inl ⟨by rfl, ?_⟩) ?_ ?_; rotate_left; (· intro w'; go_simp; (with_reducible rfl)); rotate_left; (· simp only [pn_]; rfl); refine pure_ (i := 7) (N := some 22) (v := ?_) (a' := ?_) (tf 13 223) rfl rfl (by kernel_rfl) (fun _ _ _ h => h) (Or.inl ⟨by rfl, ?_⟩) ?_ ?_; rotate_left; (· intro w'; go_simp; (with_reducible rfl)); rotate_left; (· simp only [pn_]; rfl); refine take_ (i := 5) (N := some 20) (v := ?_) (a' := ?_) (tf 13 255) rfl rfl (by kernel_rfl) (fun _ _ _ h => h) (Or.inl ⟨by rfl, ?_⟩) hHeld ?_ ?_; rotate_left; (· rintro w' ⟨s0, s1, s2⟩; go_simp; (with_reducible rfl)); rotate_left; (· simp only [pn_]; rfl); refine pure_ (i := 8) (N := some 23) (v := ?_) (a' := ?_) (tf 13 511) rfl rfl (by kernel_rfl) (fun _ _ _ h => h) (Or.inl ⟨by rfl, ?_⟩) ?_ ?_; rotate_left; (· intro w'; go_simp; (with_reducible rfl)); rotate_left; (· simp only [pn_]; rfl); refine take_ (i := 9) (N := some 24) (v := ?_) (a' := ?_) (tf 13 1023) rfl rfl (by kernel_rfl) (fun _ _ _ h => h) (Or.inl ⟨by rfl, ?_⟩) hHeld ?_ ?_; rotate_left; (· rintro w' ⟨s0, s1, s2⟩; go_simp; (with_reducible rfl)); rotate_left; (· simp only [pn_]; rfl); refine one_ (i := 10) (N := some 25) (tf 13 2047) rfl rfl (by kernel_rfl) (by decide) (fun K hK => ?_); refine value_ (w1 := ?_) (v := ?_) (by rfl) rfl ?_ ?_; rotate_left 2; (· go_simp; constructor; (· rfl); (· rfl)); refine hK.out _ _ ⟨(below_cell (below_alloc (Below.refl _ _) (.cells #[.int .i64 a] 3)) hHeld.1), (below_cell (below_alloc (Below.refl _ _) (.cells #[.int .i64 a] 3)) hHeld.2.1), (below_then hHeld.2.2 (below_alloc (Below.refl _ _) (.cells #[.int .i64 a] 3)))⟩ (fun hHeld => ?_); clear hK K; refine norm_ (a' := ?_) ?_ ?_; rotate_left; (· show Act.put _ (some 25) _ = _; simp only [pn_]; rfl); refine last_ (i := 11) (N := some 26) (tf 13 4095) rfl rfl (by kernel_rfl) (by decide) (fun K hK => ?_); refine step_app rfl (.tmp 15) (.tmp 25) 110 rfl 3 i0 (.int .i64 0) 1 8 Tryz.underlying110 hi hz0 hz1 hz2 rfl (by decide) _ 0 [] rfl (below_own hHeld.2.2 OW0.out.1) (some ⟨_, 0, none⟩) 1 1 [.int .i64 a] rfl rfl (fun e => by cases e) ?_ ?_ (by unfold maxLen; omega) (by omega) ?_; (· intro ad e j u hu; cases e; rw [add_plain]; exact cell_at (heap_alloc_new _ _) (by simpa using hu)); (· intro u hu; simp at hu; subst hu; rfl); intro A1 c1 v1 p1 p2 p3 p4; have bb1 := hHeld.2.2; refine hK.out _ _ ?_; clear hK K; refine norm_ (a' := ?_) ?_ ?_; rotate_left; (· show Act.put _ (some 26) _ = _; simp only [pn_]; rfl); refine pure_ (i := 12) (N := some 5) (v := ?_) (a' := ?_) (tf 13 8191) rfl rfl (by kernel_rfl) (fun _ _ _ h => h) (Or.inl ⟨by rfl, ?_⟩) ?_ ?_; rotate_left; (· intro w'; go_simp; (with_reducible rfl)); rotate_left; (· simp only [pn_]; rfl); refine done_ (by kernel_rfl) ?_
  obtain ⟨g1, rfl⟩ := slice_of p1 (by omega)
  have p2' : World.grownBy _ v1 none := p2
  have p3' : (Value.slice (some ⟨g1, 0, none⟩) 1 c1).ownBlock = none ∨ (Value.slice (some ⟨g1, 0, none⟩) 1 c1).ownBlock = some _ := p3
  have kg : KB [] [3] [] [] w0 v1 := KB.grown (KB.of_below bb1) p2' (fun q e hq => by cases e)
  have gg : w0.heap.size ≤ g1 := by
    have s1 := bb1.size
    have s0 : w0.heap.size ≤ w0.heap.size := H0.out.1.1.size
    rcases p3' with e | e
    · simp [Value.ownBlock] at e
    · simp [Value.ownBlock] at e; omega
  have hq := kg.1.cells H0.out.2 (by decide)
  have kw : KB [Q] [160] [] [] w0 v1 := KB.grownNew (H0.out.1.below bb1) p2' (fun q e => by cases e)
  clear p2 p2' p3 p3' p4
  have f4 := free_at hq 4
  have d4 := cell_at hq (i := 4) (v := .int .i64 0) rfl
  obtain ⟨u1, hu1⟩ : ∃ y, y = v1.setCell ⟨Q, 4, none⟩ (.int .i64 1) := ⟨_, rfl⟩
  have h4 : u1.heap[Q]? = some (.cells (quC a b c d 1 1) 160 (0, 0)) := by rw [hu1, heap_set hq]; rfl
  have f5 := free_at h4 5
  have d5 := cell_at h4 (i := 5) (v := .int .i64 1) rfl
  obtain ⟨w1, hw1⟩ : ∃ y, y = u1.setCell ⟨Q, 5, none⟩ (.int .i64 0) := ⟨_, rfl⟩
  have h5 : w1.heap[Q]? = some (.cells (quC a b c d 1 0) 160 (0, 0)) := by rw [hw1, heap_set h4]; rfl
  have kq : KT [160] [] [] v1 w1 := by rw [hw1, hu1]; exact ((KT.refl _ _ _ _).set (p := ⟨Q, 4, none⟩) hq (by simp) _).set (p := ⟨Q, 5, none⟩) hq (by simp) _
  have ow := own_keeps p1 kq ⟨by decide, by decide⟩
  have kz : KB [Q] [160] [] [] w0 w1 := by rw [hw1, hu1]; exact (kw.set (p := ⟨Q, 4, none⟩) HQ0.out (by simp) (by simp) _).set (p := ⟨Q, 5, none⟩) HQ0.out (by simp) (by simp) _
  have H1 := hid (And.intro kz h5)
  have OW1 := hid (And.intro ow gg)
  have HU := hid hu1
  have HW := hid hw1
  clear h4 h5 kq ow kz kw kg gg p1 hq hu1 hw1 c4 c5 c0 bb1 hi hz0 hz1 hz2
  go_upto_region 5 with fail
  rw [← HU.out]
  clear f4 d4
  go_wp2
  rw [← HW.out]
  clear f5 d5 HU HW
  rw [rounds_succ]
  have HL := hid (qlen_any H1.out.2)
  go_wp2_with fail
  refine HL.out.mono ?_
  rintro e _ ⟨rfl, rfl⟩
  clear HL
  go_wp2
  go_ret
  exact ⟨g1, c1, rfl, OW1.out.1, OW1.out.2, H1.out.2, H1.out.1⟩
set_option maxRecDepth 100000 in
set_option maxHeartbeats 1600000 in
theorem qpop_02 {w : World} {Q : Nat} {a b c d : Int} (h : w.heap[Q]? = some (.cells (quC a b c d 0 2) 160 (0, 0))) : Calls Tryz.prog 85 #[.pointer (some ⟨Q, 0, none⟩), .int .i64 3] w fun e w' => ∃ g c', e = .returned (.slice (some ⟨g, 0, none⟩) 2 c') ∧ w'.ownsRow 0 3 1 (.slice (some ⟨g, 0, none⟩) 2 c') 2 [.int .i64 a, .int .i64 b] ∧ w.heap.size ≤ g ∧ w'.heap[Q]? = some (.cells (quC a b c d 2 0) 160 (0, 0)) ∧ KB [Q] [160] [] [] w w' := by
  obtain ⟨w0, hw0⟩ : ∃ y, y = w := ⟨_, rfl⟩
  rw [← hw0] at h ⊢
  have HQ0 := hid h
  have H0 := hid (And.intro (KB.refl [Q] [160] [] [] w0) h)
  have OW0 := hid (And.intro (own_none w0 3 1) trivial)
  clear h hw0
  go_enter Tryz.func85, Tryz.ntmps85
  go_wp2
  refine wp_loop_rounds 3 ?_
  rw [rounds_succ]
  have c4 := cell_at H0.out.2 (i := 4) (v := .int .i64 0) rfl
  have c5 := cell_at H0.out.2 (i := 5) (v := .int .i64 2) rfl
  have c0 := cell_at H0.out.2 (i := 0) (v := .int .i64 a) rfl
  have HL := hid (qlen_any H0.out.2)
  go_wp2_with fail
  refine HL.out.mono ?_
  rintro e _ ⟨rfl, rfl⟩
  clear HL
  obtain ⟨i0, hi, hz0, hz1, hz2⟩ := info_parts infoInt
  go_upto_region 3 with fail
  refine start_ (n := 13) (S := fun w' => w'.cell? ⟨Q, 4, none⟩ = some (.int .i64 0) ∧ w'.cell? ⟨Q, 0, none⟩ = some (.int .i64 a) ∧ Below w0.heap.size w0 w') (ds := [11]) (tf 13 0) (by kernel_rfl) rfl rfl ⟨c4, c0, (Below.refl w0.heap.size w0).drew⟩ (fun hHeld => ?_); refine pure_ (i := 0) (N := some 15) (v := ?_) (a' := ?_) (tf 13 1) rfl rfl (by kernel_rfl) (fun _ _ _ h => h) (Or.inl ⟨by rfl, ?_⟩) ?_ ?_; rotate_left; (· intro w'; go_simp; (with_reducible rfl)); rotate_left; (· simp only [pn_]; rfl); refine pure_ (i := 1) (N := some 16) (v := ?_) (a' := ?_) (tf 13 3) rfl rfl (by kernel_rfl) (fun _ _ _ h => h) (Or.inl ⟨by rfl, ?_⟩) ?_ ?_; rotate_left; (· intro w'; go_simp; (with_reducible rfl)); rotate_left; (· simp only [pn_]; rfl); refine pure_ (i := 2) (N := some 17) (v := ?_) (a' := ?_) (tf 13 7) rfl rfl (by kernel_rfl) (fun _ _ _ h => h) (Or.inl ⟨by rfl, ?_⟩) ?_ ?_; rotate_left; (· intro w'; go_simp; (with_reducible rfl)); rotate_left; (· simp only [pn_]; rfl); refine pure_ (i := 3) (N := some 18) (v := ?_) (a' := ?_) (tf 13 15) rfl rfl (by kernel_rfl) (fun _ _ _ h => h) (Or.inl ⟨by rfl, ?_⟩) ?_ ?_; rotate_left; (· intro w'; go_simp; (with_reducible rfl)); rotate_left; (· simp only [pn_]; rfl); refine pure_ (i := 4) (N := some 19) (v := ?_) (a' := ?_) (tf 13 31) rfl rfl (by kernel_rfl) (fun _ _ _ h => h) (Or.inl ⟨by rfl, ?_⟩) ?_ ?_; rotate_left; (· intro w'; go_simp; (with_reducible rfl)); rotate_left; (· simp only [pn_]; rfl); refine pure_ (i := 6) (N := some 21) (v := ?_) (a' := ?_) (tf 13 95) rfl rfl (by kernel_rfl) (fun _ _ _ h => h) (Or.inl ⟨by rfl, ?_⟩) ?_ ?_; rotate_left; (· intro w'; go_simp; (with_reducible rfl)); rotate_left; (· simp only [pn_]; rfl); refine pure_ (i := 7) (N := some 22) (v := ?_) (a' := ?_) (tf 13 223) rfl rfl (by kernel_rfl) (fun _ _ _ h => h) (Or.inl ⟨by rfl, ?_⟩) ?_ ?_; rotate_left; (· intro w'; go_simp; (with_reducible rfl)); rotate_left; (· simp only [pn_]; rfl); refine take_ (i := 5) (N := some 20) (v := ?_) (a' := ?_) (tf 13 255) rfl rfl (by kernel_rfl) (fun _ _ _ h => h) (Or.inl ⟨by rfl, ?_⟩) hHeld ?_ ?_; rotate_left; (· rintro w' ⟨s0, s1, s2⟩; go_simp; (with_reducible rfl)); rotate_left; (· simp only [pn_]; rfl); refine pure_ (i := 8) (N := some 23) (v := ?_) (a' := ?_) (tf 13 511) rfl rfl (by kernel_rfl) (fun _ _ _ h => h) (Or.inl ⟨by rfl, ?_⟩) ?_ ?_; rotate_left; (· intro w'; go_simp; (with_reducible rfl)); rotate_left; (· simp only [pn_]; rfl); refine take_ (i := 9) (N := some 24) (v := ?_) (a' := ?_) (tf 13 1023) rfl rfl (by kernel_rfl) (fun _ _ _ h => h) (Or.inl ⟨by rfl, ?_⟩) hHeld ?_ ?_; rotate_left; (· rintro w' ⟨s0, s1, s2⟩; go_simp; (with_reducible rfl)); rotate_left; (· simp only [pn_]; rfl); refine one_ (i := 10) (N := some 25) (tf 13 2047) rfl rfl (by kernel_rfl) (by decide) (fun K hK => ?_); refine value_ (w1 := ?_) (v := ?_) (by rfl) rfl ?_ ?_; rotate_left 2; (· go_simp; constructor; (· rfl); (· rfl)); refine hK.out _ _ ⟨(below_cell (below_alloc (Below.refl _ _) (.cells #[.int .i64 a] 3)) hHeld.1), (below_cell (below_alloc (Below.refl _ _) (.cells #[.int .i64 a] 3)) hHeld.2.1), (below_then hHeld.2.2 (below_alloc (Below.refl _ _) (.cells #[.int .i64 a] 3)))⟩ (fun hHeld => ?_); clear hK K; refine norm_ (a' := ?_) ?_ ?_; rotate_left; (· show Act.put _ (some 25) _ = _; simp only [pn_]; rfl); refine last_ (i := 11) (N := some 26) (tf 13 4095) rfl rfl (by kernel_rfl) (by decide) (fun K hK => ?_); refine step_app rfl (.tmp 15) (.tmp 25) 110 rfl 3 i0 (.int .i64 0) 1 8 Tryz.underlying110 hi hz0 hz1 hz2 rfl (by decide) _ 0 [] rfl (below_own hHeld.2.2 OW0.out.1) (some ⟨_, 0, none⟩) 1 1 [.int .i64 a] rfl rfl (fun e => by cases e) ?_ ?_ (by unfold maxLen; omega) (by omega) ?_; (· intro ad e j u hu; cases e; rw [add_plain]; exact cell_at (heap_alloc_new _ _) (by simpa using hu)); (· intro u hu; simp at hu; subst hu; rfl); intro A1 c1 v1 p1 p2 p3 p4; have bb1 := hHeld.2.2; refine hK.out _ _ ?_; clear hK K; refine norm_ (a' := ?_) ?_ ?_; rotate_left; (· show Act.put _ (some 26) _ = _; simp only [pn_]; rfl); refine pure_ (i := 12) (N := some 5) (v := ?_) (a' := ?_) (tf 13 8191) rfl rfl (by kernel_rfl) (fun _ _ _ h => h) (Or.inl ⟨by rfl, ?_⟩) ?_ ?_; rotate_left; (· intro w'; go_simp; (with_reducible rfl)); rotate_left; (· simp only [pn_]; rfl); refine done_ (by kernel_rfl) ?_
  obtain ⟨g1, rfl⟩ := slice_of p1 (by omega)
  have p2' : World.grownBy _ v1 none := p2
  have p3' : (Value.slice (some ⟨g1, 0, none⟩) 1 c1).ownBlock = none ∨ (Value.slice (some ⟨g1, 0, none⟩) 1 c1).ownBlock = some _ := p3
  have kg : KB [] [3] [] [] w0 v1 := KB.grown (KB.of_below bb1) p2' (fun q e hq => by cases e)
  have gg : w0.heap.size ≤ g1 := by
    have s1 := bb1.size
    have s0 : w0.heap.size ≤ w0.heap.size := H0.out.1.1.size
    rcases p3' with e | e
    · simp [Value.ownBlock] at e
    · simp [Value.ownBlock] at e; omega
  have hq := kg.1.cells H0.out.2 (by decide)
  have kw : KB [Q] [160] [] [] w0 v1 := KB.grownNew (H0.out.1.below bb1) p2' (fun q e => by cases e)
  clear p2 p2' p3 p3' p4
  have f4 := free_at hq 4
  have d4 := cell_at hq (i := 4) (v := .int .i64 0) rfl
  obtain ⟨u1, hu1⟩ : ∃ y, y = v1.setCell ⟨Q, 4, none⟩ (.int .i64 1) := ⟨_, rfl⟩
  have h4 : u1.heap[Q]? = some (.cells (quC a b c d 1 2) 160 (0, 0)) := by rw [hu1, heap_set hq]; rfl
  have f5 := free_at h4 5
  have d5 := cell_at h4 (i := 5) (v := .int .i64 2) rfl
  obtain ⟨w1, hw1⟩ : ∃ y, y = u1.setCell ⟨Q, 5, none⟩ (.int .i64 1) := ⟨_, rfl⟩
  have h5 : w1.heap[Q]? = some (.cells (quC a b c d 1 1) 160 (0, 0)) := by rw [hw1, heap_set h4]; rfl
  have kq : KT [160] [] [] v1 w1 := by rw [hw1, hu1]; exact ((KT.refl _ _ _ _).set (p := ⟨Q, 4, none⟩) hq (by simp) _).set (p := ⟨Q, 5, none⟩) hq (by simp) _
  have ow := own_keeps p1 kq ⟨by decide, by decide⟩
  have kz : KB [Q] [160] [] [] w0 w1 := by rw [hw1, hu1]; exact (kw.set (p := ⟨Q, 4, none⟩) HQ0.out (by simp) (by simp) _).set (p := ⟨Q, 5, none⟩) HQ0.out (by simp) (by simp) _
  have H1 := hid (And.intro kz h5)
  have OW1 := hid (And.intro ow gg)
  have HU := hid hu1
  have HW := hid hw1
  clear h4 h5 kq ow kz kw kg gg p1 hq hu1 hw1 c4 c5 c0 bb1 hi hz0 hz1 hz2
  go_upto_region 5 with fail
  rw [← HU.out]
  clear f4 d4
  go_wp2
  rw [← HW.out]
  clear f5 d5 HU HW
  rw [rounds_succ]
  have c4 := cell_at H1.out.2 (i := 4) (v := .int .i64 1) rfl
  have c5 := cell_at H1.out.2 (i := 5) (v := .int .i64 1) rfl
  have c0 := cell_at H1.out.2 (i := 1) (v := .int .i64 b) rfl
  have HL := hid (qlen_any H1.out.2)
  go_wp2_with fail
  refine HL.out.mono ?_
  rintro e _ ⟨rfl, rfl⟩
  clear HL
  obtain ⟨i0, hi, hz0, hz1, hz2⟩ := info_parts infoInt
  go_upto_region 3 with fail
  refine start_ (n := 13) (S := fun w' => w'.cell? ⟨Q, 4, none⟩ = some (.int .i64 1) ∧ w'.cell? ⟨Q, 1, none⟩ = some (.int .i64 b) ∧ Below w1.heap.size w1 w') (ds := [11]) (tf 13 0) (by kernel_rfl) rfl rfl ⟨c4, c0, (Below.refl w1.heap.size w1).drew⟩ (fun hHeld => ?_); refine pure_ (i := 0) (N := some 15) (v := ?_) (a' := ?_) (tf 13 1) rfl rfl (by kernel_rfl) (fun _ _ _ h => h) (Or.inl ⟨by rfl, ?_⟩) ?_ ?_; rotate_left; (· intro w'; go_simp; (with_reducible rfl)); rotate_left; (· simp only [pn_]; rfl); refine pure_ (i := 1) (N := some 16) (v := ?_) (a' := ?_) (tf 13 3) rfl rfl (by kernel_rfl) (fun _ _ _ h => h) (Or.inl ⟨by rfl, ?_⟩) ?_ ?_; rotate_left; (· intro w'; go_simp; (with_reducible rfl)); rotate_left; (· simp only [pn_]; rfl); refine pure_ (i := 2) (N := some 17) (v := ?_) (a' := ?_) (tf 13 7) rfl rfl (by kernel_rfl) (fun _ _ _ h => h) (Or.inl ⟨by rfl, ?_⟩) ?_ ?_; rotate_left; (· intro w'; go_simp; (with_reducible rfl)); rotate_left; (· simp only [pn_]; rfl); refine pure_ (i := 3) (N := some 18) (v := ?_) (a' := ?_) (tf 13 15) rfl rfl (by kernel_rfl) (fun _ _ _ h => h) (Or.inl ⟨by rfl, ?_⟩) ?_ ?_; rotate_left; (· intro w'; go_simp; (with_reducible rfl)); rotate_left; (· simp only [pn_]; rfl); refine pure_ (i := 4) (N := some 19) (v := ?_) (a' := ?_) (tf 13 31) rfl rfl (by kernel_rfl) (fun _ _ _ h => h) (Or.inl ⟨by rfl, ?_⟩) ?_ ?_; rotate_left; (· intro w'; go_simp; (with_reducible rfl)); rotate_left; (· simp only [pn_]; rfl); refine pure_ (i := 6) (N := some 21) (v := ?_) (a' := ?_) (tf 13 95) rfl rfl (by kernel_rfl) (fun _ _ _ h => h) (Or.inl ⟨by rfl, ?_⟩) ?_ ?_; rotate_left; (· intro w'; go_simp; (with_reducible rfl)); rotate_left; (· simp only [pn_]; rfl); refine pure_ (i := 7) (N := some 22) (v := ?_) (a' := ?_) (tf 13 223) rfl rfl (by kernel_rfl) (fun _ _ _ h => h) (Or.inl ⟨by rfl, ?_⟩) ?_ ?_; rotate_left; (· intro w'; go_simp; (with_reducible rfl)); rotate_left; (· simp only [pn_]; rfl); refine take_ (i := 5) (N := some 20) (v := ?_) (a' := ?_) (tf 13 255) rfl rfl (by kernel_rfl) (fun _ _ _ h => h) (Or.inl ⟨by rfl, ?_⟩) hHeld ?_ ?_; rotate_left; (· rintro w' ⟨s0, s1, s2⟩; go_simp; (with_reducible rfl)); rotate_left; (· simp only [pn_]; rfl); refine pure_ (i := 8) (N := some 23) (v := ?_) (a' := ?_) (tf 13 511) rfl rfl (by kernel_rfl) (fun _ _ _ h => h) (Or.inl ⟨by rfl, ?_⟩) ?_ ?_; rotate_left; (· intro w'; go_simp; (with_reducible rfl)); rotate_left; (· simp only [pn_]; rfl); refine take_ (i := 9) (N := some 24) (v := ?_) (a' := ?_) (tf 13 1023) rfl rfl (by kernel_rfl) (fun _ _ _ h => h) (Or.inl ⟨by rfl, ?_⟩) hHeld ?_ ?_; rotate_left; (· rintro w' ⟨s0, s1, s2⟩; go_simp; (with_reducible rfl)); rotate_left; (· simp only [pn_]; rfl); refine one_ (i := 10) (N := some 25) (tf 13 2047) rfl rfl (by kernel_rfl) (by decide) (fun K hK => ?_); refine value_ (w1 := ?_) (v := ?_) (by rfl) rfl ?_ ?_; rotate_left 2; (· go_simp; constructor; (· rfl); (· rfl)); refine hK.out _ _ ⟨(below_cell (below_alloc (Below.refl _ _) (.cells #[.int .i64 b] 3)) hHeld.1), (below_cell (below_alloc (Below.refl _ _) (.cells #[.int .i64 b] 3)) hHeld.2.1), (below_then hHeld.2.2 (below_alloc (Below.refl _ _) (.cells #[.int .i64 b] 3)))⟩ (fun hHeld => ?_); clear hK K; refine norm_ (a' := ?_) ?_ ?_; rotate_left; (· show Act.put _ (some 25) _ = _; simp only [pn_]; rfl); refine last_ (i := 11) (N := some 26) (tf 13 4095) rfl rfl (by kernel_rfl) (by decide) (fun K hK => ?_); refine step_app rfl (.tmp 15) (.tmp 25) 110 rfl 3 i0 (.int .i64 0) 1 8 Tryz.underlying110 hi hz0 hz1 hz2 rfl (by decide) _ 1 [.int .i64 a] rfl (below_own hHeld.2.2 OW1.out.1) (some ⟨_, 0, none⟩) 1 1 [.int .i64 b] rfl rfl (fun e => by cases e) ?_ ?_ (by unfold maxLen; omega) (by omega) ?_; (· intro ad e j u hu; cases e; rw [add_plain]; exact cell_at (heap_alloc_new _ _) (by simpa using hu)); (· intro u hu; simp at hu; subst hu; rfl); intro A2 c2 v2 p1 p2 p3 p4; have bb2 := hHeld.2.2; refine hK.out _ _ ?_; clear hK K; refine norm_ (a' := ?_) ?_ ?_; rotate_left; (· show Act.put _ (some 26) _ = _; simp only [pn_]; rfl); refine pure_ (i := 12) (N := some 5) (v := ?_) (a' := ?_) (tf 13 8191) rfl rfl (by kernel_rfl) (fun _ _ _ h => h) (Or.inl ⟨by rfl, ?_⟩) ?_ ?_; rotate_left; (· intro w'; go_simp; (with_reducible rfl)); rotate_left; (· simp only [pn_]; rfl); refine done_ (by kernel_rfl) ?_
  obtain ⟨g2, rfl⟩ := slice_of p1 (by omega)
  have p2' : World.grownBy _ v2 (some g1) := p2
  have p3' : (Value.slice (some ⟨g2, 0, none⟩) 2 c2).ownBlock = (some g1) ∨ (Value.slice (some ⟨g2, 0, none⟩) 2 c2).ownBlock = some _ := p3
  have kg : KB [g1] [3] [] [] w1 v2 := KB.grown (KB.of_below bb2) p2' (fun q e hq => by cases e; obtain ⟨cur, hc⟩ := own_typed OW1.out.1 rfl; exact ⟨by simp, cur, _, _, hc, by simp⟩)
  have gg : w0.heap.size ≤ g2 := by
    have s1 := bb2.size
    have s0 : w0.heap.size ≤ w1.heap.size := H1.out.1.1.size
    rcases p3' with e | e
    · simp [Value.ownBlock] at e; subst e; exact OW1.out.2
    · simp [Value.ownBlock] at e; omega
  have hq := kg.1.cells H1.out.2 (by decide)
  have kw : KB [Q] [160] [] [] w0 v2 := KB.grownNew (H1.out.1.below bb2) p2' (fun q e => by cases e; exact OW1.out.2)
  clear p2 p2' p3 p3' p4
  have f4 := free_at hq 4
  have d4 := cell_at hq (i := 4) (v := .int .i64 1) rfl
  obtain ⟨u2, hu2⟩ : ∃ y, y = v2.setCell ⟨Q, 4, none⟩ (.int .i64 2) := ⟨_, rfl⟩
  have h4 : u2.heap[Q]? = some (.cells (quC a b c d 2 1) 160 (0, 0)) := by rw [hu2, heap_set hq]; rfl
  have f5 := free_at h4 5
  have d5 := cell_at h4 (i := 5) (v := .int .i64 1) rfl
  obtain ⟨w2, hw2⟩ : ∃ y, y = u2.setCell ⟨Q, 5, none⟩ (.int .i64 0) := ⟨_, rfl⟩
  have h5 : w2.heap[Q]? = some (.cells (quC a b c d 2 0) 160 (0, 0)) := by rw [hw2, heap_set h4]; rfl
  have kq : KT [160] [] [] v2 w2 := by rw [hw2, hu2]; exact ((KT.refl _ _ _ _).set (p := ⟨Q, 4, none⟩) hq (by simp) _).set (p := ⟨Q, 5, none⟩) hq (by simp) _
  have ow := own_keeps p1 kq ⟨by decide, by decide⟩
  have kz : KB [Q] [160] [] [] w0 w2 := by rw [hw2, hu2]; exact (kw.set (p := ⟨Q, 4, none⟩) HQ0.out (by simp) (by simp) _).set (p := ⟨Q, 5, none⟩) HQ0.out (by simp) (by simp) _
  have H2 := hid (And.intro kz h5)
  have OW2 := hid (And.intro ow gg)
  have HU := hid hu2
  have HW := hid hw2
  clear h4 h5 kq ow kz kw kg gg p1 hq hu2 hw2 c4 c5 c0 bb2 hi hz0 hz1 hz2
  go_upto_region 5 with fail
  rw [← HU.out]
  clear f4 d4
  go_wp2
  rw [← HW.out]
  clear f5 d5 HU HW
  rw [rounds_succ]
  have HL := hid (qlen_any H2.out.2)
  go_wp2_with fail
  refine HL.out.mono ?_
  rintro e _ ⟨rfl, rfl⟩
  clear HL
  go_wp2
  go_ret
  exact ⟨g2, c2, rfl, OW2.out.1, OW2.out.2, H2.out.2, H2.out.1⟩
set_option maxRecDepth 100000 in
set_option maxHeartbeats 1600000 in
theorem qpop_11 {w : World} {Q : Nat} {a b c d : Int} (h : w.heap[Q]? = some (.cells (quC a b c d 1 1) 160 (0, 0))) : Calls Tryz.prog 85 #[.pointer (some ⟨Q, 0, none⟩), .int .i64 3] w fun e w' => ∃ g c', e = .returned (.slice (some ⟨g, 0, none⟩) 1 c') ∧ w'.ownsRow 0 3 1 (.slice (some ⟨g, 0, none⟩) 1 c') 1 [.int .i64 b] ∧ w.heap.size ≤ g ∧ w'.heap[Q]? = some (.cells (quC a b c d 2 0) 160 (0, 0)) ∧ KB [Q] [160] [] [] w w' := by
  obtain ⟨w0, hw0⟩ : ∃ y, y = w := ⟨_, rfl⟩
  rw [← hw0] at h ⊢
  have HQ0 := hid h
  have H0 := hid (And.intro (KB.refl [Q] [160] [] [] w0) h)
  have OW0 := hid (And.intro (own_none w0 3 1) trivial)
  clear h hw0
  go_enter Tryz.func85, Tryz.ntmps85
  go_wp2
  refine wp_loop_rounds 2 ?_
  rw [rounds_succ]
  have c4 := cell_at H0.out.2 (i := 4) (v := .int .i64 1) rfl
  have c5 := cell_at H0.out.2 (i := 5) (v := .int .i64 1) rfl
  have c0 := cell_at H0.out.2 (i := 1) (v := .int .i64 b) rfl
  have HL := hid (qlen_any H0.out.2)
  go_wp2_with fail
  refine HL.out.mono ?_
  rintro e _ ⟨rfl, rfl⟩
  clear HL
  obtain ⟨i0, hi, hz0, hz1, hz2⟩ := info_parts infoInt
  go_upto_region 3 with fail
  refine start_ (n := 13) (S := fun w' => w'.cell? ⟨Q, 4, none⟩ = some (.int .i64 1) ∧ w'.cell? ⟨Q, 1, none⟩ = some (.int .i64 b) ∧ Below w0.heap.size w0 w') (ds := [11]) (tf 13 0) (by kernel_rfl) rfl rfl ⟨c4, c0, (Below.refl w0.heap.size w0).drew⟩ (fun hHeld => ?_); refine pure_ (i := 0) (N := some 15) (v := ?_) (a' := ?_) (tf 13 1) rfl rfl (by kernel_rfl) (fun _ _ _ h => h) (Or.inl ⟨by rfl, ?_⟩) ?_ ?_; rotate_left; (· intro w'; go_simp; (with_reducible rfl)); rotate_left; (· simp only [pn_]; rfl); refine pure_ (i := 1) (N := some 16) (v := ?_) (a' := ?_) (tf 13 3) rfl rfl (by kernel_rfl) (fun _ _ _ h => h) (Or.inl ⟨by rfl, ?_⟩) ?_ ?_; rotate_left; (· intro w'; go_simp; (with_reducible rfl)); rotate_left; (· simp only [pn_]; rfl); refine pure_ (i := 2) (N := some 17) (v := ?_) (a' := ?_) (tf 13 7) rfl rfl (by kernel_rfl) (fun _ _ _ h => h) (Or.inl ⟨by rfl, ?_⟩) ?_ ?_; rotate_left; (· intro w'; go_simp; (with_reducible rfl)); rotate_left; (· simp only [pn_]; rfl); refine pure_ (i := 3) (N := some 18) (v := ?_) (a' := ?_) (tf 13 15) rfl rfl (by kernel_rfl) (fun _ _ _ h => h) (Or.inl ⟨by rfl, ?_⟩) ?_ ?_; rotate_left; (· intro w'; go_simp; (with_reducible rfl)); rotate_left; (· simp only [pn_]; rfl); refine pure_ (i := 4) (N := some 19) (v := ?_) (a' := ?_) (tf 13 31) rfl rfl (by kernel_rfl) (fun _ _ _ h => h) (Or.inl ⟨by rfl, ?_⟩) ?_ ?_; rotate_left; (· intro w'; go_simp; (with_reducible rfl)); rotate_left; (· simp only [pn_]; rfl); refine pure_ (i := 6) (N := some 21) (v := ?_) (a' := ?_) (tf 13 95) rfl rfl (by kernel_rfl) (fun _ _ _ h => h) (Or.inl ⟨by rfl, ?_⟩) ?_ ?_; rotate_left; (· intro w'; go_simp; (with_reducible rfl)); rotate_left; (· simp only [pn_]; rfl); refine pure_ (i := 7) (N := some 22) (v := ?_) (a' := ?_) (tf 13 223) rfl rfl (by kernel_rfl) (fun _ _ _ h => h) (Or.inl ⟨by rfl, ?_⟩) ?_ ?_; rotate_left; (· intro w'; go_simp; (with_reducible rfl)); rotate_left; (· simp only [pn_]; rfl); refine take_ (i := 5) (N := some 20) (v := ?_) (a' := ?_) (tf 13 255) rfl rfl (by kernel_rfl) (fun _ _ _ h => h) (Or.inl ⟨by rfl, ?_⟩) hHeld ?_ ?_; rotate_left; (· rintro w' ⟨s0, s1, s2⟩; go_simp; (with_reducible rfl)); rotate_left; (· simp only [pn_]; rfl); refine pure_ (i := 8) (N := some 23) (v := ?_) (a' := ?_) (tf 13 511) rfl rfl (by kernel_rfl) (fun _ _ _ h => h) (Or.inl ⟨by rfl, ?_⟩) ?_ ?_; rotate_left; (· intro w'; go_simp; (with_reducible rfl)); rotate_left; (· simp only [pn_]; rfl); refine take_ (i := 9) (N := some 24) (v := ?_) (a' := ?_) (tf 13 1023) rfl rfl (by kernel_rfl) (fun _ _ _ h => h) (Or.inl ⟨by rfl, ?_⟩) hHeld ?_ ?_; rotate_left; (· rintro w' ⟨s0, s1, s2⟩; go_simp; (with_reducible rfl)); rotate_left; (· simp only [pn_]; rfl); refine one_ (i := 10) (N := some 25) (tf 13 2047) rfl rfl (by kernel_rfl) (by decide) (fun K hK => ?_); refine value_ (w1 := ?_) (v := ?_) (by rfl) rfl ?_ ?_; rotate_left 2; (· go_simp; constructor; (· rfl); (· rfl)); refine hK.out _ _ ⟨(below_cell (below_alloc (Below.refl _ _) (.cells #[.int .i64 b] 3)) hHeld.1), (below_cell (below_alloc (Below.refl _ _) (.cells #[.int .i64 b] 3)) hHeld.2.1), (below_then hHeld.2.2 (below_alloc (Below.refl _ _) (.cells #[.int .i64 b] 3)))⟩ (fun hHeld => ?_); clear hK K; refine norm_ (a' := ?_) ?_ ?_; rotate_left; (· show Act.put _ (some 25) _ = _; simp only [pn_]; rfl); refine last_ (i := 11) (N := some 26) (tf 13 4095) rfl rfl (by kernel_rfl) (by decide) (fun K hK => ?_); refine step_app rfl (.tmp 15) (.tmp 25) 110 rfl 3 i0 (.int .i64 0) 1 8 Tryz.underlying110 hi hz0 hz1 hz2 rfl (by decide) _ 0 [] rfl (below_own hHeld.2.2 OW0.out.1) (some ⟨_, 0, none⟩) 1 1 [.int .i64 b] rfl rfl (fun e => by cases e) ?_ ?_ (by unfold maxLen; omega) (by omega) ?_; (· intro ad e j u hu; cases e; rw [add_plain]; exact cell_at (heap_alloc_new _ _) (by simpa using hu)); (· intro u hu; simp at hu; subst hu; rfl); intro A1 c1 v1 p1 p2 p3 p4; have bb1 := hHeld.2.2; refine hK.out _ _ ?_; clear hK K; refine norm_ (a' := ?_) ?_ ?_; rotate_left; (· show Act.put _ (some 26) _ = _; simp only [pn_]; rfl); refine pure_ (i := 12) (N := some 5) (v := ?_) (a' := ?_) (tf 13 8191) rfl rfl (by kernel_rfl) (fun _ _ _ h => h) (Or.inl ⟨by rfl, ?_⟩) ?_ ?_; rotate_left; (· intro w'; go_simp; (with_reducible rfl)); rotate_left; (· simp only [pn_]; rfl); refine done_ (by kernel_rfl) ?_
  obtain ⟨g1, rfl⟩ := slice_of p1 (by omega)
  have p2' : World.grownBy _ v1 none := p2
  have p3' : (Value.slice (some ⟨g1, 0, none⟩) 1 c1).ownBlock = none ∨ (Value.slice (some ⟨g1, 0, none⟩) 1 c1).ownBlock = some _ := p3
  have kg : KB [] [3] [] [] w0 v1 := KB.grown (KB.of_below bb1) p2' (fun q e hq => by cases e)
  have gg : w0.heap.size ≤ g1 := by
    have s1 := bb1.size
    have s0 : w0.heap.size ≤ w0.heap.size := H0.out.1.1.size
    rcases p3' with e | e
    · simp [Value.ownBlock] at e
    · simp [Value.ownBlock] at e; omega
  have hq := kg.1.cells H0.out.2 (by decide)
  have kw : KB [Q] [160] [] [] w0 v1 := KB.grownNew (H0.out.1.below bb1) p2' (fun q e => by cases e)
  clear p2 p2' p3 p3' p4
  have f4 := free_at hq 4
  have d4 := cell_at hq (i := 4) (v := .int .i64 1) rfl
  obtain ⟨u1, hu1⟩ : ∃ y, y = v1.setCell ⟨Q, 4, none⟩ (.int .i64 2) := ⟨_, rfl⟩
  have h4 : u1.heap[Q]? = some (.cells (quC a b c d 2 1) 160 (0, 0)) := by rw [hu1, heap_set hq]; rfl
  have f5 := free_at h4 5
  have d5 := cell_at h4 (i := 5) (v := .int .i64 1) rfl
  obtain ⟨w1, hw1⟩ : ∃ y, y = u1.setCell ⟨Q, 5, none⟩ (.int .i64 0) := ⟨_, rfl⟩
  have h5 : w1.heap[Q]? = some (.cells (quC a b c d 2 0) 160 (0, 0)) := by rw [hw1, heap_set h4]; rfl
  have kq : KT [160] [] [] v1 w1 := by rw [hw1, hu1]; exact ((KT.refl _ _ _ _).set (p := ⟨Q, 4, none⟩) hq (by simp) _).set (p := ⟨Q, 5, none⟩) hq (by simp) _
  have ow := own_keeps p1 kq ⟨by decide, by decide⟩
  have kz : KB [Q] [160] [] [] w0 w1 := by rw [hw1, hu1]; exact (kw.set (p := ⟨Q, 4, none⟩) HQ0.out (by simp) (by simp) _).set (p := ⟨Q, 5, none⟩) HQ0.out (by simp) (by simp) _
  have H1 := hid (And.intro kz h5)
  have OW1 := hid (And.intro ow gg)
  have HU := hid hu1
  have HW := hid hw1
  clear h4 h5 kq ow kz kw kg gg p1 hq hu1 hw1 c4 c5 c0 bb1 hi hz0 hz1 hz2
  go_upto_region 5 with fail
  rw [← HU.out]
  clear f4 d4
  go_wp2
  rw [← HW.out]
  clear f5 d5 HU HW
  rw [rounds_succ]
  have HL := hid (qlen_any H1.out.2)
  go_wp2_with fail
  refine HL.out.mono ?_
  rintro e _ ⟨rfl, rfl⟩
  clear HL
  go_wp2
  go_ret
  exact ⟨g1, c1, rfl, OW1.out.1, OW1.out.2, H1.out.2, H1.out.1⟩
end Go.Proofs.YtnidgljkbmceaaaGreatDoor
