/- TopSkew's walks: the engine's commits, its answers. (printed by gen_ans.py) -/
import Derived.Test.YtnidgljkbmceaaaGreatDoorPn
import Derived.Test.YtnidgljkbmceaaaGreatDoorG23
set_option linter.unusedVariables false
set_option linter.unusedSimpArgs false
namespace Go.Proofs.YtnidgljkbmceaaaGreatDoor
open Go.RowKit PrintLast Go.Maps Go.MapKept
set_option maxRecDepth 100000 in
set_option maxHeartbeats 6400000 in
theorem commit_0 {w : World} {E L P hn hc : Nat} {ha : Option Addr} {a b : Cli} {now id : Int} {bs : List Nat} {ts : List TypeId} {ms rs : List Nat} {ZB : World → Prop} (hE : w.heap[E]? = some (.cells (engS L P a b (.slice ha hn hc) now) 64 (0, 0))) (hx : a.tx = id) (h0 : id ≠ 0)
    (HW : ∀ w1, Below w.heap.size w w1 → Calls Tryz.prog 79 #[.pointer (some ⟨L, 0, none⟩), .int .i64 id] w1 fun e w' => e = .returned (.int .i64 1) ∧ Below w1.heap.size w1 w')
    (HS : ∀ w1, Below w.heap.size w w1 → Calls Tryz.prog 80 #[.pointer (some ⟨P, 0, none⟩), .int .i64 id] w1 fun e w' => e = .returned (.int .i64 0) ∧ ZB w' ∧ KB bs ts ms rs w1 w') (ht : 64 ∉ ts ∧ 38 ∉ ts) (hZ : ∀ w1 w2, ZB w1 → KT [64, 38] [] [] w1 w2 → ZB w2) :
    Calls Tryz.prog 41 #[.pointer (some ⟨E, 0, none⟩), .pointer (some ⟨E, 2, none⟩)] w fun e w' => e = .returned (.tuple #[okV, .bool false]) ∧ ZB w' ∧ w'.heap[E]? = some (.cells (engS L P ({ a with waits := true, entry := (hn : Int) }) (b) (.slice ha hn hc) now) 64 (0, 0)) ∧ KB (E :: bs) (64 :: ts) ms rs w w' := by
  obtain ⟨S, hS⟩ : ∃ S, S = w.heap.size := ⟨_, rfl⟩
  obtain ⟨w1, hw1⟩ : ∃ w1, w1 = w.alloc (.cells #[.int .i64 0, .bool false, .slice none 0 0, .slice none 0 0, .slice none 0 0] 38) := ⟨_, rfl⟩
  have b1 : Below w.heap.size w w1 := by rw [hw1]; exact below_alloc (Below.refl _ _) _
  have g1 : w1.heap[S]? = some (.cells #[.int .i64 0, .bool false, .slice none 0 0, .slice none 0 0, .slice none 0 0] 38 (0, 0)) := by rw [hw1, hS]; exact heap_alloc_new _ _
  have e1 := below_heap b1 hE
  have t0 : (id == 0) = false := by simpa using h0
  have c0 := cell_at e1 (i := 0) (v := .pointer (some ⟨L, 0, none⟩)) rfl
  have cx := cell_at e1 (i := 2) (v := .int .i64 a.tx) rfl
  rw [hx] at cx
  have O1 := hid HW
  have O2 := hid HS
  have W1 := hid (And.intro hS hw1)
  have G1 := hid (And.intro e1 (And.intro g1 (And.intro b1 (And.intro ht (And.intro hZ (And.intro hE hx))))))
  unfold okV
  clear HW HS e1 g1 b1 ht hZ hE hw1 hS hx h0
  go_enter Tryz.func41, Tryz.ntmps41
  go_upto_region 1 with fail
  rw [← W1.out.1, ← W1.out.2]
  go_upto_region 3 with fail
  refine start_ (n := 11) (S := fun w' => w'.cell? ⟨E, 0, none⟩ = some (.pointer (some ⟨L, 0, none⟩)) ∧ w'.cell? ⟨E, 2, none⟩ = some (.int .i64 id) ∧ Below w1.heap.size w1 w') (ds := []) (tf 11 0) (by kernel_rfl) rfl rfl ⟨c0, cx, (Below.refl w1.heap.size w1).drew⟩ (fun hHeld => ?_); refine pure_ (i := 0) (N := some 15) (v := ?_) (a' := ?_) (tf 11 1) rfl rfl (by kernel_rfl) (fun _ _ _ h => h) (Or.inl ⟨by rfl, ?_⟩) ?_ ?_; rotate_left; (· intro w'; go_simp; (with_reducible rfl)); rotate_left; (· simp only [pn_]; rfl); refine pure_ (i := 1) (N := some 16) (v := ?_) (a' := ?_) (tf 11 3) rfl rfl (by kernel_rfl) (fun _ _ _ h => h) (Or.inl ⟨by rfl, ?_⟩) ?_ ?_; rotate_left; (· intro w'; go_simp; (with_reducible rfl)); rotate_left; (· simp only [pn_]; rfl); refine pure_ (i := 2) (N := some 17) (v := ?_) (a' := ?_) (tf 11 7) rfl rfl (by kernel_rfl) (fun _ _ _ h => h) (Or.inl ⟨by rfl, ?_⟩) ?_ ?_; rotate_left; (· intro w'; go_simp; (with_reducible rfl)); rotate_left; (· simp only [pn_]; rfl); refine pure_ (i := 4) (N := some 19) (v := ?_) (a' := ?_) (tf 11 23) rfl rfl (by kernel_rfl) (fun _ _ _ h => h) (Or.inl ⟨by rfl, ?_⟩) ?_ ?_; rotate_left; (· intro w'; go_simp; (with_reducible rfl)); rotate_left; (· simp only [pn_]; rfl); refine pure_ (i := 5) (N := some 20) (v := ?_) (a' := ?_) (tf 11 55) rfl rfl (by kernel_rfl) (fun _ _ _ h => h) (Or.inl ⟨by rfl, ?_⟩) ?_ ?_; rotate_left; (· intro w'; go_simp; (with_reducible rfl)); rotate_left; (· simp only [pn_]; rfl); refine pure_ (i := 6) (N := some 21) (v := ?_) (a' := ?_) (tf 11 119) rfl rfl (by kernel_rfl) (fun _ _ _ h => h) (Or.inl ⟨by rfl, ?_⟩) ?_ ?_; rotate_left; (· intro w'; go_simp; (with_reducible rfl)); rotate_left; (· simp only [pn_]; rfl); refine take_ (i := 3) (N := some 18) (v := ?_) (a' := ?_) (tf 11 127) rfl rfl (by kernel_rfl) (fun _ _ _ h => h) (Or.inl ⟨by rfl, ?_⟩) hHeld ?_ ?_; rotate_left; (· rintro w' ⟨s0, s1, s2⟩; go_simp; (with_reducible rfl)); rotate_left; (· simp only [pn_]; rfl); refine take_ (i := 7) (N := some 22) (v := ?_) (a' := ?_) (tf 11 255) rfl rfl (by kernel_rfl) (fun _ _ _ h => h) (Or.inl ⟨by rfl, ?_⟩) hHeld ?_ ?_; rotate_left; (· rintro w' ⟨s0, s1, s2⟩; go_simp; (with_reducible rfl)); rotate_left; (· simp only [pn_]; rfl); refine one_ (i := 8) (N := some 23) (tf 11 511) rfl rfl (by kernel_rfl) (by decide) (fun K hK => ?_); refine goes_ Tryz.func79 (by kernel_rfl) rfl #[.pointer (some ⟨L, 0, none⟩), .int .i64 id] (by rfl) rfl rfl (by simp only [List.map_toArray, List.map_cons, List.map_nil]; rfl) ?_; (with_reducible refine ((O1.out _ (below_then G1.out.2.2.1 hHeld.2.2))).mono ?_); rintro e w2 ⟨rfl, b2⟩; refine ⟨_, rfl, ?_⟩; have b12 := below_then hHeld.2.2 b2; refine hK.out _ _ ⟨(below_cell b2 hHeld.1), (below_cell b2 hHeld.2.1), b12⟩ (fun hHeld => ?_); clear hK K; refine norm_ (a' := ?_) ?_ ?_; rotate_left; (· show Act.put _ (some 23) _ = _; simp only [pn_]; rfl); refine pure_ (i := 9) (N := some 24) (v := ?_) (a' := ?_) (tf 11 1023) rfl rfl (by kernel_rfl) (fun _ _ _ h => h) (Or.inl ⟨by rfl, ?_⟩) ?_ ?_; rotate_left; (· intro w'; go_simp; (with_reducible rfl)); rotate_left; (· simp only [pn_]; rfl); refine pure_ (i := 10) (N := some 14) (v := ?_) (a' := ?_) (tf 11 2047) rfl rfl (by kernel_rfl) (fun _ _ _ h => h) (Or.inl ⟨by rfl, ?_⟩) ?_ ?_; rotate_left; (· intro w'; go_simp; (with_reducible rfl)); rotate_left; (· simp only [pn_]; rfl); refine done_ (by kernel_rfl) ?_
  have e2 := below_heap b12 G1.out.1
  have c1 := cell_at e2 (i := 1) (v := .pointer (some ⟨P, 0, none⟩)) rfl
  have cy := cell_at e2 (i := 2) (v := .int .i64 a.tx) rfl
  rw [G1.out.2.2.2.2.2.2] at cy
  have B2 := hid b12
  clear b12 e2 c0 cx b2
  go_upto_region 7 with fail
  refine start_ (n := 10) (S := fun w' => w'.cell? ⟨E, 1, none⟩ = some (.pointer (some ⟨P, 0, none⟩)) ∧ w'.cell? ⟨E, 2, none⟩ = some (.int .i64 id) ∧ Below w2.heap.size w2 w') (ds := [8]) (tf 10 0) (by kernel_rfl) rfl rfl ⟨c1, cy, (Below.refl w2.heap.size w2).drew⟩ (fun hHeld => ?_); refine pure_ (i := 0) (N := some 38) (v := ?_) (a' := ?_) (tf 10 1) rfl rfl (by kernel_rfl) (fun _ _ _ h => h) (Or.inl ⟨by rfl, ?_⟩) ?_ ?_; rotate_left; (· intro w'; go_simp; (with_reducible rfl)); rotate_left; (· simp only [pn_]; rfl); refine pure_ (i := 1) (N := some 39) (v := ?_) (a' := ?_) (tf 10 3) rfl rfl (by kernel_rfl) (fun _ _ _ h => h) (Or.inl ⟨by rfl, ?_⟩) ?_ ?_; rotate_left; (· intro w'; go_simp; (with_reducible rfl)); rotate_left; (· simp only [pn_]; rfl); refine pure_ (i := 2) (N := some 40) (v := ?_) (a' := ?_) (tf 10 7) rfl rfl (by kernel_rfl) (fun _ _ _ h => h) (Or.inl ⟨by rfl, ?_⟩) ?_ ?_; rotate_left; (· intro w'; go_simp; (with_reducible rfl)); rotate_left; (· simp only [pn_]; rfl); refine pure_ (i := 4) (N := some 42) (v := ?_) (a' := ?_) (tf 10 23) rfl rfl (by kernel_rfl) (fun _ _ _ h => h) (Or.inl ⟨by rfl, ?_⟩) ?_ ?_; rotate_left; (· intro w'; go_simp; (with_reducible rfl)); rotate_left; (· simp only [pn_]; rfl); refine pure_ (i := 5) (N := some 43) (v := ?_) (a' := ?_) (tf 10 55) rfl rfl (by kernel_rfl) (fun _ _ _ h => h) (Or.inl ⟨by rfl, ?_⟩) ?_ ?_; rotate_left; (· intro w'; go_simp; (with_reducible rfl)); rotate_left; (· simp only [pn_]; rfl); refine pure_ (i := 6) (N := some 44) (v := ?_) (a' := ?_) (tf 10 119) rfl rfl (by kernel_rfl) (fun _ _ _ h => h) (Or.inl ⟨by rfl, ?_⟩) ?_ ?_; rotate_left; (· intro w'; go_simp; (with_reducible rfl)); rotate_left; (· simp only [pn_]; rfl); refine take_ (i := 3) (N := some 41) (v := ?_) (a' := ?_) (tf 10 127) rfl rfl (by kernel_rfl) (fun _ _ _ h => h) (Or.inl ⟨by rfl, ?_⟩) hHeld ?_ ?_; rotate_left; (· rintro w' ⟨s0, s1, s2⟩; go_simp; (with_reducible rfl)); rotate_left; (· simp only [pn_]; rfl); refine take_ (i := 7) (N := some 45) (v := ?_) (a' := ?_) (tf 10 255) rfl rfl (by kernel_rfl) (fun _ _ _ h => h) (Or.inl ⟨by rfl, ?_⟩) hHeld ?_ ?_; rotate_left; (· rintro w' ⟨s0, s1, s2⟩; go_simp; (with_reducible rfl)); rotate_left; (· simp only [pn_]; rfl); refine last_ (i := 8) (N := some 46) (tf 10 511) rfl rfl (by kernel_rfl) (by decide) (fun K hK => ?_); refine goes_ Tryz.func80 (by kernel_rfl) rfl #[.pointer (some ⟨P, 0, none⟩), .int .i64 id] (by rfl) rfl rfl (by simp only [List.map_toArray, List.map_cons, List.map_nil]; rfl) ?_; (with_reducible refine ((O2.out _ (below_then (below_then G1.out.2.2.1 B2.out) hHeld.2.2))).mono ?_); rintro e w3 ⟨rfl, zb, kb⟩; refine ⟨_, rfl, ?_⟩; have b23 := hHeld.2.2; refine hK.out _ _ ?_; clear hK K; refine norm_ (a' := ?_) ?_ ?_; rotate_left; (· show Act.put _ (some 46) _ = _; simp only [pn_]; rfl); refine pure_ (i := 9) (N := some 6) (v := ?_) (a' := ?_) (tf 10 1023) rfl rfl (by kernel_rfl) (fun _ _ _ h => h) (Or.inl ⟨by rfl, ?_⟩) ?_ ?_; rotate_left; (· intro w'; go_simp; (with_reducible rfl)); rotate_left; (· simp only [pn_]; rfl); refine done_ (by kernel_rfl) ?_
  have bA := below_then (below_then G1.out.2.2.1 B2.out) b23
  have e3 := kb.1.cells (below_heap b23 (below_heap B2.out G1.out.1)) ⟨G1.out.2.2.2.1.1, by decide⟩
  have g3 := kb.1.cells (below_heap b23 (below_heap B2.out G1.out.2.1)) ⟨G1.out.2.2.2.1.2, by decide⟩
  have d74 := cell_at e3 (i := 74) (v := .slice ha hn hc) rfl
  have da := cell_at e3 (i := 4) (v := .bool a.waits) rfl
  have fa := free_at e3 4
  have h5 := heap_set (i := 4) (v := .bool true) e3
  have db := cell_at h5 (i := 3) (v := .int .i64 a.entry) rfl
  have fb := free_at h5 3
  obtain ⟨w4, hw4⟩ : ∃ y, y = (w3.setCell ⟨E, 4, none⟩ (.bool true)).setCell ⟨E, 3, none⟩ (.int .i64 (hn : Int)) := ⟨_, rfl⟩
  have kE : KT [64] [] [] w3 w4 := by rw [hw4]; exact ((KT.refl _ _ _ _).set (p := ⟨E, 4, none⟩) e3 (by simp) _).set (p := ⟨E, 3, none⟩) e3 (by simp) _
  have e4 : w4.heap[E]? = some (.cells (engS L P ({ a with waits := true, entry := (hn : Int) }) (b) (.slice ha hn hc) now) 64 (0, 0)) := by rw [hw4]; exact (heap_set h5).trans rfl
  have gR := kE.cells g3 (by decide)
  have k4 : KB (E :: bs) (64 :: ts) ms rs w w4 := by
    rw [hw4]; exact ((((KB.of_below (bs := E :: bs) (ts := 64 :: ts) (ms := ms) (rs := rs) bA).then kb (by intro x hx _; simp [hx]) (by intro x hx; simp [hx]) (fun _ q _ => q) (fun _ q _ => q)).set (p := ⟨E, 4, none⟩) G1.out.2.2.2.2.2.1 (by simp) (by simp) _).set (p := ⟨E, 3, none⟩) G1.out.2.2.2.2.2.1 (by simp) (by simp) _)
  have F3 := hid (And.intro e4 (And.intro k4 (And.intro zb kE)))
  have W4 := hid hw4
  clear hw4 e4 k4 zb kE e3 g3 kb bA b23 h5 c1 cy
  go_upto_region 11 with fail
  rw [← W4.out]
  clear d74 da fa db fb
  have q0 := cell_at gR (i := 0) rfl
  have q1 := cell_at gR (i := 1) rfl
  have q2 := cell_at gR (i := 2) rfl
  have q3 := cell_at gR (i := 3) rfl
  have q4 := cell_at gR (i := 4) rfl
  have f0 := free_at gR 0
  have f1 := free_at gR 1
  have f2 := free_at gR 2
  have f3 := free_at gR 3
  have f4 := free_at gR 4
  have GR := hid gR
  clear gR
  go_wp2
  obtain ⟨X4, hX4⟩ : ∃ y, y = set5 w4 S 0 (.int .i64 0) (.bool false) (.slice none 0 0) (.slice none 0 0) (.slice none 0 0) := ⟨_, rfl⟩
  have g7 : X4.heap[S]? = some (.cells #[.int .i64 0, .bool false, .slice none 0 0, .slice none 0 0, .slice none 0 0] 38 (0, 0)) := by rw [hX4]; exact set5_heap GR.out
  have kS : KT [38] [] [] w4 X4 := by rw [hX4]; exact (KT.refl _ _ _ _).set5 GR.out (by simp) _ _ _ _ _
  have FIN := hid (show ZB X4 ∧ X4.heap[E]? = some (.cells (engS L P ({ a with waits := true, entry := (hn : Int) }) (b) (.slice ha hn hc) now) 64 (0, 0)) ∧ KB (E :: bs) (64 :: ts) ms rs w X4 from ⟨G1.out.2.2.2.2.1 _ _ F3.out.2.2.1 ((F3.out.2.2.2.mono (ts' := [64, 38]) (ms' := []) (rs' := []) (by simp) (by simp) (by simp)).then kS (by simp) (by simp) (by simp)), kS.cells F3.out.1 (by decide), by rw [hX4]; exact F3.out.2.1.set5New (by rw [← W1.out.1]; exact Nat.le_refl _) _ _ _ _ _⟩)
  have G7 := hid g7
  have HX4 := hid (show (((((w4.setCell ⟨S, 0, none⟩ (.int .i64 0)).setCell ⟨S, 1, none⟩ (.bool false)).setCell ⟨S, 2, none⟩ (.slice none 0 0)).setCell ⟨S, 3, none⟩ (.slice none 0 0)).setCell ⟨S, 4, none⟩ (.slice none 0 0)) = X4 from hX4.symm)
  clear hX4 g7 kS q0 q1 q2 q3 q4 f0 f1 f2 f3 f4
  rw [HX4.out]
  try simp only [Exit.inBlock, Exit.then]
  refine bodyPost_ret (ret_cell_tmp rfl rfl G7.out Tryz.underlying38 rfl infReply) rfl ?_
  exact ⟨rfl, FIN.out⟩
set_option maxRecDepth 100000 in
set_option maxHeartbeats 6400000 in
theorem commit_1 {w : World} {E L P hn hc : Nat} {ha : Option Addr} {a b : Cli} {now id : Int} {bs : List Nat} {ts : List TypeId} {ms rs : List Nat} {ZB : World → Prop} (hE : w.heap[E]? = some (.cells (engS L P a b (.slice ha hn hc) now) 64 (0, 0))) (hx : b.tx = id) (h0 : id ≠ 0)
    (HW : ∀ w1, Below w.heap.size w w1 → Calls Tryz.prog 79 #[.pointer (some ⟨L, 0, none⟩), .int .i64 id] w1 fun e w' => e = .returned (.int .i64 1) ∧ Below w1.heap.size w1 w')
    (HS : ∀ w1, Below w.heap.size w w1 → Calls Tryz.prog 80 #[.pointer (some ⟨P, 0, none⟩), .int .i64 id] w1 fun e w' => e = .returned (.int .i64 0) ∧ ZB w' ∧ KB bs ts ms rs w1 w') (ht : 64 ∉ ts ∧ 38 ∉ ts) (hZ : ∀ w1 w2, ZB w1 → KT [64, 38] [] [] w1 w2 → ZB w2) :
    Calls Tryz.prog 41 #[.pointer (some ⟨E, 0, none⟩), .pointer (some ⟨E, 11, none⟩)] w fun e w' => e = .returned (.tuple #[okV, .bool false]) ∧ ZB w' ∧ w'.heap[E]? = some (.cells (engS L P (a) ({ b with waits := true, entry := (hn : Int) }) (.slice ha hn hc) now) 64 (0, 0)) ∧ KB (E :: bs) (64 :: ts) ms rs w w' := by
  obtain ⟨S, hS⟩ : ∃ S, S = w.heap.size := ⟨_, rfl⟩
  obtain ⟨w1, hw1⟩ : ∃ w1, w1 = w.alloc (.cells #[.int .i64 0, .bool false, .slice none 0 0, .slice none 0 0, .slice none 0 0] 38) := ⟨_, rfl⟩
  have b1 : Below w.heap.size w w1 := by rw [hw1]; exact below_alloc (Below.refl _ _) _
  have g1 : w1.heap[S]? = some (.cells #[.int .i64 0, .bool false, .slice none 0 0, .slice none 0 0, .slice none 0 0] 38 (0, 0)) := by rw [hw1, hS]; exact heap_alloc_new _ _
  have e1 := below_heap b1 hE
  have t0 : (id == 0) = false := by simpa using h0
  have c0 := cell_at e1 (i := 0) (v := .pointer (some ⟨L, 0, none⟩)) rfl
  have cx := cell_at e1 (i := 11) (v := .int .i64 b.tx) rfl
  rw [hx] at cx
  have O1 := hid HW
  have O2 := hid HS
  have W1 := hid (And.intro hS hw1)
  have G1 := hid (And.intro e1 (And.intro g1 (And.intro b1 (And.intro ht (And.intro hZ (And.intro hE hx))))))
  unfold okV
  clear HW HS e1 g1 b1 ht hZ hE hw1 hS hx h0
  go_enter Tryz.func41, Tryz.ntmps41
  go_upto_region 1 with fail
  rw [← W1.out.1, ← W1.out.2]
  go_upto_region 3 with fail
  refine start_ (n := 11) (S := fun w' => w'.cell? ⟨E, 0, none⟩ = some (.pointer (some ⟨L, 0, none⟩)) ∧ w'.cell? ⟨E, 11, none⟩ = some (.int .i64 id) ∧ Below w1.heap.size w1 w') (ds := []) (tf 11 0) (by kernel_rfl) rfl rfl ⟨c0, cx, (Below.refl w1.heap.size w1).drew⟩ (fun hHeld => ?_); refine pure_ (i := 0) (N := some 15) (v := ?_) (a' := ?_) (tf 11 1) rfl rfl (by kernel_rfl) (fun _ _ _ h => h) (Or.inl ⟨by rfl, ?_⟩) ?_ ?_; rotate_left; (· intro w'; go_simp; (with_reducible rfl)); rotate_left; (· simp only [pn_]; rfl); refine pure_ (i := 1) (N := some 16) (v := ?_) (a' := ?_) (tf 11 3) rfl rfl (by kernel_rfl) (fun _ _ _ h => h) (Or.inl ⟨by rfl, ?_⟩) ?_ ?_; rotate_left; (· intro w'; go_simp; (with_reducible rfl)); rotate_left; (· simp only [pn_]; rfl); refine pure_ (i := 2) (N := some 17) (v := ?_) (a' := ?_) (tf 11 7) rfl rfl (by kernel_rfl) (fun _ _ _ h => h) (Or.inl ⟨by rfl, ?_⟩) ?_ ?_; rotate_left; (· intro w'; go_simp; (with_reducible rfl)); rotate_left; (· simp only [pn_]; rfl); refine pure_ (i := 4) (N := some 19) (v := ?_) (a' := ?_) (tf 11 23) rfl rfl (by kernel_rfl) (fun _ _ _ h => h) (Or.inl ⟨by rfl, ?_⟩) ?_ ?_; rotate_left; (· intro w'; go_simp; (with_reducible rfl)); rotate_left; (· simp only [pn_]; rfl); refine pure_ (i := 5) (N := some 20) (v := ?_) (a' := ?_) (tf 11 55) rfl rfl (by kernel_rfl) (fun _ _ _ h => h) (Or.inl ⟨by rfl, ?_⟩) ?_ ?_; rotate_left; (· intro w'; go_simp; (with_reducible rfl)); rotate_left; (· simp only [pn_]; rfl); refine pure_ (i := 6) (N := some 21) (v := ?_) (a' := ?_) (tf 11 119) rfl rfl (by kernel_rfl) (fun _ _ _ h => h) (Or.inl ⟨by rfl, ?_⟩) ?_ ?_; rotate_left; (· intro w'; go_simp; (with_reducible rfl)); rotate_left; (· simp only [pn_]; rfl); refine take_ (i := 3) (N := some 18) (v := ?_) (a' := ?_) (tf 11 127) rfl rfl (by kernel_rfl) (fun _ _ _ h => h) (Or.inl ⟨by rfl, ?_⟩) hHeld ?_ ?_; rotate_left; (· rintro w' ⟨s0, s1, s2⟩; go_simp; (with_reducible rfl)); rotate_left; (· simp only [pn_]; rfl); refine take_ (i := 7) (N := some 22) (v := ?_) (a' := ?_) (tf 11 255) rfl rfl (by kernel_rfl) (fun _ _ _ h => h) (Or.inl ⟨by rfl, ?_⟩) hHeld ?_ ?_; rotate_left; (· rintro w' ⟨s0, s1, s2⟩; go_simp; (with_reducible rfl)); rotate_left; (· simp only [pn_]; rfl); refine one_ (i := 8) (N := some 23) (tf 11 511) rfl rfl (by kernel_rfl) (by decide) (fun K hK => ?_); refine goes_ Tryz.func79 (by kernel_rfl) rfl #[.pointer (some ⟨L, 0, none⟩), .int .i64 id] (by rfl) rfl rfl (by simp only [List.map_toArray, List.map_cons, List.map_nil]; rfl) ?_; (with_reducible refine ((O1.out _ (below_then G1.out.2.2.1 hHeld.2.2))).mono ?_); rintro e w2 ⟨rfl, b2⟩; refine ⟨_, rfl, ?_⟩; have b12 := below_then hHeld.2.2 b2; refine hK.out _ _ ⟨(below_cell b2 hHeld.1), (below_cell b2 hHeld.2.1), b12⟩ (fun hHeld => ?_); clear hK K; refine norm_ (a' := ?_) ?_ ?_; rotate_left; (· show Act.put _ (some 23) _ = _; simp only [pn_]; rfl); refine pure_ (i := 9) (N := some 24) (v := ?_) (a' := ?_) (tf 11 1023) rfl rfl (by kernel_rfl) (fun _ _ _ h => h) (Or.inl ⟨by rfl, ?_⟩) ?_ ?_; rotate_left; (· intro w'; go_simp; (with_reducible rfl)); rotate_left; (· simp only [pn_]; rfl); refine pure_ (i := 10) (N := some 14) (v := ?_) (a' := ?_) (tf 11 2047) rfl rfl (by kernel_rfl) (fun _ _ _ h => h) (Or.inl ⟨by rfl, ?_⟩) ?_ ?_; rotate_left; (· intro w'; go_simp; (with_reducible rfl)); rotate_left; (· simp only [pn_]; rfl); refine done_ (by kernel_rfl) ?_
  have e2 := below_heap b12 G1.out.1
  have c1 := cell_at e2 (i := 1) (v := .pointer (some ⟨P, 0, none⟩)) rfl
  have cy := cell_at e2 (i := 11) (v := .int .i64 b.tx) rfl
  rw [G1.out.2.2.2.2.2.2] at cy
  have B2 := hid b12
  clear b12 e2 c0 cx b2
  go_upto_region 7 with fail
  refine start_ (n := 10) (S := fun w' => w'.cell? ⟨E, 1, none⟩ = some (.pointer (some ⟨P, 0, none⟩)) ∧ w'.cell? ⟨E, 11, none⟩ = some (.int .i64 id) ∧ Below w2.heap.size w2 w') (ds := [8]) (tf 10 0) (by kernel_rfl) rfl rfl ⟨c1, cy, (Below.refl w2.heap.size w2).drew⟩ (fun hHeld => ?_); refine pure_ (i := 0) (N := some 38) (v := ?_) (a' := ?_) (tf 10 1) rfl rfl (by kernel_rfl) (fun _ _ _ h => h) (Or.inl ⟨by rfl, ?_⟩) ?_ ?_; rotate_left; (· intro w'; go_simp; (with_reducible rfl)); rotate_left; (· simp only [pn_]; rfl); refine pure_ (i := 1) (N := some 39) (v := ?_) (a' := ?_) (tf 10 3) rfl rfl (by kernel_rfl) (fun _ _ _ h => h) (Or.inl ⟨by rfl, ?_⟩) ?_ ?_; rotate_left; (· intro w'; go_simp; (with_reducible rfl)); rotate_left; (· simp only [pn_]; rfl); refine pure_ (i := 2) (N := some 40) (v := ?_) (a' := ?_) (tf 10 7) rfl rfl (by kernel_rfl) (fun _ _ _ h => h) (Or.inl ⟨by rfl, ?_⟩) ?_ ?_; rotate_left; (· intro w'; go_simp; (with_reducible rfl)); rotate_left; (· simp only [pn_]; rfl); refine pure_ (i := 4) (N := some 42) (v := ?_) (a' := ?_) (tf 10 23) rfl rfl (by kernel_rfl) (fun _ _ _ h => h) (Or.inl ⟨by rfl, ?_⟩) ?_ ?_; rotate_left; (· intro w'; go_simp; (with_reducible rfl)); rotate_left; (· simp only [pn_]; rfl); refine pure_ (i := 5) (N := some 43) (v := ?_) (a' := ?_) (tf 10 55) rfl rfl (by kernel_rfl) (fun _ _ _ h => h) (Or.inl ⟨by rfl, ?_⟩) ?_ ?_; rotate_left; (· intro w'; go_simp; (with_reducible rfl)); rotate_left; (· simp only [pn_]; rfl); refine pure_ (i := 6) (N := some 44) (v := ?_) (a' := ?_) (tf 10 119) rfl rfl (by kernel_rfl) (fun _ _ _ h => h) (Or.inl ⟨by rfl, ?_⟩) ?_ ?_; rotate_left; (· intro w'; go_simp; (with_reducible rfl)); rotate_left; (· simp only [pn_]; rfl); refine take_ (i := 3) (N := some 41) (v := ?_) (a' := ?_) (tf 10 127) rfl rfl (by kernel_rfl) (fun _ _ _ h => h) (Or.inl ⟨by rfl, ?_⟩) hHeld ?_ ?_; rotate_left; (· rintro w' ⟨s0, s1, s2⟩; go_simp; (with_reducible rfl)); rotate_left; (· simp only [pn_]; rfl); refine take_ (i := 7) (N := some 45) (v := ?_) (a' := ?_) (tf 10 255) rfl rfl (by kernel_rfl) (fun _ _ _ h => h) (Or.inl ⟨by rfl, ?_⟩) hHeld ?_ ?_; rotate_left; (· rintro w' ⟨s0, s1, s2⟩; go_simp; (with_reducible rfl)); rotate_left; (· simp only [pn_]; rfl); refine last_ (i := 8) (N := some 46) (tf 10 511) rfl rfl (by kernel_rfl) (by decide) (fun K hK => ?_); refine goes_ Tryz.func80 (by kernel_rfl) rfl #[.pointer (some ⟨P, 0, none⟩), .int .i64 id] (by rfl) rfl rfl (by simp only [List.map_toArray, List.map_cons, List.map_nil]; rfl) ?_; (with_reducible refine ((O2.out _ (below_then (below_then G1.out.2.2.1 B2.out) hHeld.2.2))).mono ?_); rintro e w3 ⟨rfl, zb, kb⟩; refine ⟨_, rfl, ?_⟩; have b23 := hHeld.2.2; refine hK.out _ _ ?_; clear hK K; refine norm_ (a' := ?_) ?_ ?_; rotate_left; (· show Act.put _ (some 46) _ = _; simp only [pn_]; rfl); refine pure_ (i := 9) (N := some 6) (v := ?_) (a' := ?_) (tf 10 1023) rfl rfl (by kernel_rfl) (fun _ _ _ h => h) (Or.inl ⟨by rfl, ?_⟩) ?_ ?_; rotate_left; (· intro w'; go_simp; (with_reducible rfl)); rotate_left; (· simp only [pn_]; rfl); refine done_ (by kernel_rfl) ?_
  have bA := below_then (below_then G1.out.2.2.1 B2.out) b23
  have e3 := kb.1.cells (below_heap b23 (below_heap B2.out G1.out.1)) ⟨G1.out.2.2.2.1.1, by decide⟩
  have g3 := kb.1.cells (below_heap b23 (below_heap B2.out G1.out.2.1)) ⟨G1.out.2.2.2.1.2, by decide⟩
  have d74 := cell_at e3 (i := 74) (v := .slice ha hn hc) rfl
  have da := cell_at e3 (i := 13) (v := .bool b.waits) rfl
  have fa := free_at e3 13
  have h5 := heap_set (i := 13) (v := .bool true) e3
  have db := cell_at h5 (i := 12) (v := .int .i64 b.entry) rfl
  have fb := free_at h5 12
  obtain ⟨w4, hw4⟩ : ∃ y, y = (w3.setCell ⟨E, 13, none⟩ (.bool true)).setCell ⟨E, 12, none⟩ (.int .i64 (hn : Int)) := ⟨_, rfl⟩
  have kE : KT [64] [] [] w3 w4 := by rw [hw4]; exact ((KT.refl _ _ _ _).set (p := ⟨E, 13, none⟩) e3 (by simp) _).set (p := ⟨E, 12, none⟩) e3 (by simp) _
  have e4 : w4.heap[E]? = some (.cells (engS L P (a) ({ b with waits := true, entry := (hn : Int) }) (.slice ha hn hc) now) 64 (0, 0)) := by rw [hw4]; exact (heap_set h5).trans rfl
  have gR := kE.cells g3 (by decide)
  have k4 : KB (E :: bs) (64 :: ts) ms rs w w4 := by
    rw [hw4]; exact ((((KB.of_below (bs := E :: bs) (ts := 64 :: ts) (ms := ms) (rs := rs) bA).then kb (by intro x hx _; simp [hx]) (by intro x hx; simp [hx]) (fun _ q _ => q) (fun _ q _ => q)).set (p := ⟨E, 13, none⟩) G1.out.2.2.2.2.2.1 (by simp) (by simp) _).set (p := ⟨E, 12, none⟩) G1.out.2.2.2.2.2.1 (by simp) (by simp) _)
  have F3 := hid (And.intro e4 (And.intro k4 (And.intro zb kE)))
  have W4 := hid hw4
  clear hw4 e4 k4 zb kE e3 g3 kb bA b23 h5 c1 cy
  go_upto_region 11 with fail
  rw [← W4.out]
  clear d74 da fa db fb
  have q0 := cell_at gR (i := 0) rfl
  have q1 := cell_at gR (i := 1) rfl
  have q2 := cell_at gR (i := 2) rfl
  have q3 := cell_at gR (i := 3) rfl
  have q4 := cell_at gR (i := 4) rfl
  have f0 := free_at gR 0
  have f1 := free_at gR 1
  have f2 := free_at gR 2
  have f3 := free_at gR 3
  have f4 := free_at gR 4
  have GR := hid gR
  clear gR
  go_wp2
  obtain ⟨X4, hX4⟩ : ∃ y, y = set5 w4 S 0 (.int .i64 0) (.bool false) (.slice none 0 0) (.slice none 0 0) (.slice none 0 0) := ⟨_, rfl⟩
  have g7 : X4.heap[S]? = some (.cells #[.int .i64 0, .bool false, .slice none 0 0, .slice none 0 0, .slice none 0 0] 38 (0, 0)) := by rw [hX4]; exact set5_heap GR.out
  have kS : KT [38] [] [] w4 X4 := by rw [hX4]; exact (KT.refl _ _ _ _).set5 GR.out (by simp) _ _ _ _ _
  have FIN := hid (show ZB X4 ∧ X4.heap[E]? = some (.cells (engS L P (a) ({ b with waits := true, entry := (hn : Int) }) (.slice ha hn hc) now) 64 (0, 0)) ∧ KB (E :: bs) (64 :: ts) ms rs w X4 from ⟨G1.out.2.2.2.2.1 _ _ F3.out.2.2.1 ((F3.out.2.2.2.mono (ts' := [64, 38]) (ms' := []) (rs' := []) (by simp) (by simp) (by simp)).then kS (by simp) (by simp) (by simp)), kS.cells F3.out.1 (by decide), by rw [hX4]; exact F3.out.2.1.set5New (by rw [← W1.out.1]; exact Nat.le_refl _) _ _ _ _ _⟩)
  have G7 := hid g7
  have HX4 := hid (show (((((w4.setCell ⟨S, 0, none⟩ (.int .i64 0)).setCell ⟨S, 1, none⟩ (.bool false)).setCell ⟨S, 2, none⟩ (.slice none 0 0)).setCell ⟨S, 3, none⟩ (.slice none 0 0)).setCell ⟨S, 4, none⟩ (.slice none 0 0)) = X4 from hX4.symm)
  clear hX4 g7 kS q0 q1 q2 q3 q4 f0 f1 f2 f3 f4
  rw [HX4.out]
  try simp only [Exit.inBlock, Exit.then]
  refine bodyPost_ret (ret_cell_tmp rfl rfl G7.out Tryz.underlying38 rfl infReply) rfl ?_
  exact ⟨rfl, FIN.out⟩
set_option maxRecDepth 100000 in
set_option maxHeartbeats 6400000 in
theorem answer_1 {w : World} {E : Nat} {y : Value} {ra : Option Addr} {rn rc : Nat} {bs : List Nat} {ts : List TypeId} {ms rs : List Nat} {ZB : World → Prop}
    (HP : ∀ w1, Below w.heap.size w w1 → Calls Tryz.prog 39 #[.pointer (some ⟨E, 0, none⟩), y] w1 fun e w' => e = .returned okV ∧ ZB w' ∧ KB bs ts ms rs w1 w') (ht : 38 ∉ ts) (hZ : ∀ w1 w2, ZB w1 → KT [38] [] [] w1 w2 → ZB w2) :
    Calls Tryz.prog 20 #[.pointer (some ⟨E, 0, none⟩), y, .agg #[.int .u8 1, .int .i64 0, .slice ra rn rc, .string ⟨#[]⟩, .int .i64 0]] w fun e w' => e = .returned (.tuple #[okV, .bool true]) ∧ ZB w' ∧ KB bs ts ms rs w w' := by
  obtain ⟨S, hS⟩ : ∃ S, S = w.heap.size := ⟨_, rfl⟩
  obtain ⟨S1, hS1⟩ : ∃ S1, S1 = S + 1 := ⟨_, rfl⟩
  obtain ⟨w1, hw1⟩ : ∃ w1, w1 = (w.alloc (.cells #[.int .u8 1, .int .i64 0, .slice ra rn rc, .string ⟨#[]⟩, .int .i64 0] 42)).alloc (.cells #[.int .i64 0, .bool false, .slice none 0 0, .slice none 0 0, .slice none 0 0] 38) := ⟨_, rfl⟩
  have b1 : Below w.heap.size w w1 := by rw [hw1]; exact below_alloc (below_alloc (Below.refl _ _) _) _
  have g1 : w1.heap[S1]? = some (.cells #[.int .i64 0, .bool false, .slice none 0 0, .slice none 0 0, .slice none 0 0] 38 (0, 0)) := by
    rw [hw1, hS1, hS]
    have := heap_alloc_new (w.alloc (.cells #[.int .u8 1, .int .i64 0, .slice ra rn rc, .string ⟨#[]⟩, .int .i64 0] 42)) (.cells #[.int .i64 0, .bool false, .slice none 0 0, .slice none 0 0, .slice none 0 0] 38)
    rw [show (w.alloc (.cells #[.int .u8 1, .int .i64 0, .slice ra rn rc, .string ⟨#[]⟩, .int .i64 0] 42)).heap.size = w.heap.size + 1 by simp] at this
    exact this
  have g0 : w1.heap[S]? = some (.cells #[.int .u8 1, .int .i64 0, .slice ra rn rc, .string ⟨#[]⟩, .int .i64 0] 42 (0, 0)) := by
    rw [hw1, hS]; exact below_heap (below_alloc (Below.refl _ _) _) (heap_alloc_new _ _)
  have c0 := cell_at g0 (i := 0) (v := .int .u8 1) rfl
  have c1 := cell_at g0 (i := 1) (v := .int .i64 0) rfl
  have c2 := cell_at g0 (i := 2) (v := .slice ra rn rc) rfl
  have c3 := cell_at g0 (i := 3) (v := .string ⟨#[]⟩) rfl
  have c4 := cell_at g0 (i := 4) (v := .int .i64 0) rfl
  have HH := hid (HP w1 b1)
  have W1 := hid (And.intro (show S1 = w.heap.size + 1 by omega) (And.intro hS hw1))
  have G1 := hid (And.intro g1 (And.intro b1 (And.intro ht hZ)))
  unfold okV at HH ⊢
  clear HP g1 b1 g0 hw1 hS hS1 ht hZ
  go_enter Tryz.func20, Tryz.ntmps20
  go_upto_region 1 with fail
  rw [← W1.out.1, ← W1.out.2.1, ← W1.out.2.2]
  go_wp2_with fail
  with_reducible refine HH.out.mono ?_
  rintro e w2 ⟨rfl, zb, kb⟩
  have gR := kb.1.cells G1.out.1 ⟨G1.out.2.2.1, by decide⟩
  have F4 := hid (And.intro ((KB.of_below (bs := bs) (ts := ts) (ms := ms) (rs := rs) G1.out.2.1).trans kb) (And.intro (show w.heap.size ≤ S1 by have := W1.out; omega) zb))
  clear c0 c1 c2 c3 c4 HH zb kb
  have q0 := cell_at gR (i := 0) rfl
  have q1 := cell_at gR (i := 1) rfl
  have q2 := cell_at gR (i := 2) rfl
  have q3 := cell_at gR (i := 3) rfl
  have q4 := cell_at gR (i := 4) rfl
  have f0 := free_at gR 0
  have f1 := free_at gR 1
  have f2 := free_at gR 2
  have f3 := free_at gR 3
  have f4 := free_at gR 4
  have GR := hid gR
  clear gR
  go_wp2
  obtain ⟨X4, hX4⟩ : ∃ y, y = set5 w2 S1 0 (.int .i64 0) (.bool false) (.slice none 0 0) (.slice none 0 0) (.slice none 0 0) := ⟨_, rfl⟩
  have g7 : X4.heap[S1]? = some (.cells #[.int .i64 0, .bool false, .slice none 0 0, .slice none 0 0, .slice none 0 0] 38 (0, 0)) := by rw [hX4]; exact set5_heap GR.out
  have kS : KT [38] [] [] w2 X4 := by rw [hX4]; exact (KT.refl _ _ _ _).set5 GR.out (by simp) _ _ _ _ _
  have FIN := hid (show ZB X4 ∧ KB bs ts ms rs w X4 from ⟨G1.out.2.2.2 _ _ F4.out.2.2 kS, by rw [hX4]; exact F4.out.1.set5New F4.out.2.1 _ _ _ _ _⟩)
  have G7 := hid g7
  have HX4 := hid (show (((((w2.setCell ⟨S1, 0, none⟩ (.int .i64 0)).setCell ⟨S1, 1, none⟩ (.bool false)).setCell ⟨S1, 2, none⟩ (.slice none 0 0)).setCell ⟨S1, 3, none⟩ (.slice none 0 0)).setCell ⟨S1, 4, none⟩ (.slice none 0 0)) = X4 from hX4.symm)
  clear hX4 g7 kS q0 q1 q2 q3 q4 f0 f1 f2 f3 f4
  rw [HX4.out]
  try simp only [Exit.inBlock, Exit.then]
  refine bodyPost_ret (ret_cell_tmp rfl rfl G7.out Tryz.underlying38 rfl infReply) rfl ?_
  exact ⟨rfl, FIN.out⟩
set_option maxRecDepth 100000 in
set_option maxHeartbeats 6400000 in
theorem answer_2 {w : World} {E : Nat} {y : Value} {ra : Option Addr} {rn rc : Nat} {bs : List Nat} {ts : List TypeId} {ms rs : List Nat} {ZB : World → Prop}
    (HP : ∀ w1, Below w.heap.size w w1 → Calls Tryz.prog 40 #[.pointer (some ⟨E, 0, none⟩), y, .agg #[.int .u8 2, .int .i64 0, .slice ra rn rc, .string ⟨#[]⟩, .int .i64 0]] w1 fun e w' => e = .returned okV ∧ ZB w' ∧ KB bs ts ms rs w1 w') (ht : 38 ∉ ts) (hZ : ∀ w1 w2, ZB w1 → KT [38] [] [] w1 w2 → ZB w2) :
    Calls Tryz.prog 20 #[.pointer (some ⟨E, 0, none⟩), y, .agg #[.int .u8 2, .int .i64 0, .slice ra rn rc, .string ⟨#[]⟩, .int .i64 0]] w fun e w' => e = .returned (.tuple #[okV, .bool true]) ∧ ZB w' ∧ KB bs ts ms rs w w' := by
  obtain ⟨S, hS⟩ : ∃ S, S = w.heap.size := ⟨_, rfl⟩
  obtain ⟨S1, hS1⟩ : ∃ S1, S1 = S + 1 := ⟨_, rfl⟩
  obtain ⟨w1, hw1⟩ : ∃ w1, w1 = (w.alloc (.cells #[.int .u8 2, .int .i64 0, .slice ra rn rc, .string ⟨#[]⟩, .int .i64 0] 42)).alloc (.cells #[.int .i64 0, .bool false, .slice none 0 0, .slice none 0 0, .slice none 0 0] 38) := ⟨_, rfl⟩
  have b1 : Below w.heap.size w w1 := by rw [hw1]; exact below_alloc (below_alloc (Below.refl _ _) _) _
  have g1 : w1.heap[S1]? = some (.cells #[.int .i64 0, .bool false, .slice none 0 0, .slice none 0 0, .slice none 0 0] 38 (0, 0)) := by
    rw [hw1, hS1, hS]
    have := heap_alloc_new (w.alloc (.cells #[.int .u8 2, .int .i64 0, .slice ra rn rc, .string ⟨#[]⟩, .int .i64 0] 42)) (.cells #[.int .i64 0, .bool false, .slice none 0 0, .slice none 0 0, .slice none 0 0] 38)
    rw [show (w.alloc (.cells #[.int .u8 2, .int .i64 0, .slice ra rn rc, .string ⟨#[]⟩, .int .i64 0] 42)).heap.size = w.heap.size + 1 by simp] at this
    exact this
  have g0 : w1.heap[S]? = some (.cells #[.int .u8 2, .int .i64 0, .slice ra rn rc, .string ⟨#[]⟩, .int .i64 0] 42 (0, 0)) := by
    rw [hw1, hS]; exact below_heap (below_alloc (Below.refl _ _) _) (heap_alloc_new _ _)
  have c0 := cell_at g0 (i := 0) (v := .int .u8 2) rfl
  have c1 := cell_at g0 (i := 1) (v := .int .i64 0) rfl
  have c2 := cell_at g0 (i := 2) (v := .slice ra rn rc) rfl
  have c3 := cell_at g0 (i := 3) (v := .string ⟨#[]⟩) rfl
  have c4 := cell_at g0 (i := 4) (v := .int .i64 0) rfl
  have HH := hid (HP w1 b1)
  have W1 := hid (And.intro (show S1 = w.heap.size + 1 by omega) (And.intro hS hw1))
  have G1 := hid (And.intro g1 (And.intro b1 (And.intro ht hZ)))
  unfold okV at HH ⊢
  clear HP g1 b1 g0 hw1 hS hS1 ht hZ
  go_enter Tryz.func20, Tryz.ntmps20
  go_upto_region 1 with fail
  rw [← W1.out.1, ← W1.out.2.1, ← W1.out.2.2]
  go_wp2_with fail
  with_reducible refine HH.out.mono ?_
  rintro e w2 ⟨rfl, zb, kb⟩
  have gR := kb.1.cells G1.out.1 ⟨G1.out.2.2.1, by decide⟩
  have F4 := hid (And.intro ((KB.of_below (bs := bs) (ts := ts) (ms := ms) (rs := rs) G1.out.2.1).trans kb) (And.intro (show w.heap.size ≤ S1 by have := W1.out; omega) zb))
  clear c0 c1 c2 c3 c4 HH zb kb
  have q0 := cell_at gR (i := 0) rfl
  have q1 := cell_at gR (i := 1) rfl
  have q2 := cell_at gR (i := 2) rfl
  have q3 := cell_at gR (i := 3) rfl
  have q4 := cell_at gR (i := 4) rfl
  have f0 := free_at gR 0
  have f1 := free_at gR 1
  have f2 := free_at gR 2
  have f3 := free_at gR 3
  have f4 := free_at gR 4
  have GR := hid gR
  clear gR
  go_wp2
  obtain ⟨X4, hX4⟩ : ∃ y, y = set5 w2 S1 0 (.int .i64 0) (.bool false) (.slice none 0 0) (.slice none 0 0) (.slice none 0 0) := ⟨_, rfl⟩
  have g7 : X4.heap[S1]? = some (.cells #[.int .i64 0, .bool false, .slice none 0 0, .slice none 0 0, .slice none 0 0] 38 (0, 0)) := by rw [hX4]; exact set5_heap GR.out
  have kS : KT [38] [] [] w2 X4 := by rw [hX4]; exact (KT.refl _ _ _ _).set5 GR.out (by simp) _ _ _ _ _
  have FIN := hid (show ZB X4 ∧ KB bs ts ms rs w X4 from ⟨G1.out.2.2.2 _ _ F4.out.2.2 kS, by rw [hX4]; exact F4.out.1.set5New F4.out.2.1 _ _ _ _ _⟩)
  have G7 := hid g7
  have HX4 := hid (show (((((w2.setCell ⟨S1, 0, none⟩ (.int .i64 0)).setCell ⟨S1, 1, none⟩ (.bool false)).setCell ⟨S1, 2, none⟩ (.slice none 0 0)).setCell ⟨S1, 3, none⟩ (.slice none 0 0)).setCell ⟨S1, 4, none⟩ (.slice none 0 0)) = X4 from hX4.symm)
  clear hX4 g7 kS q0 q1 q2 q3 q4 f0 f1 f2 f3 f4
  rw [HX4.out]
  try simp only [Exit.inBlock, Exit.then]
  refine bodyPost_ret (ret_cell_tmp rfl rfl G7.out Tryz.underlying38 rfl infReply) rfl ?_
  exact ⟨rfl, FIN.out⟩
set_option maxRecDepth 100000 in
set_option maxHeartbeats 6400000 in
theorem answer_4 {w : World} {E : Nat} {y : Value} {ra : Option Addr} {rn rc : Nat} {bs : List Nat} {ts : List TypeId} {ms rs : List Nat} {ZB : World → Prop}
    (HP : ∀ w1, Below w.heap.size w w1 → Calls Tryz.prog 40 #[.pointer (some ⟨E, 0, none⟩), y, .agg #[.int .u8 4, .int .i64 0, .slice ra rn rc, .string ⟨#[]⟩, .int .i64 0]] w1 fun e w' => e = .returned okV ∧ ZB w' ∧ KB bs ts ms rs w1 w') (ht : 38 ∉ ts) (hZ : ∀ w1 w2, ZB w1 → KT [38] [] [] w1 w2 → ZB w2) :
    Calls Tryz.prog 20 #[.pointer (some ⟨E, 0, none⟩), y, .agg #[.int .u8 4, .int .i64 0, .slice ra rn rc, .string ⟨#[]⟩, .int .i64 0]] w fun e w' => e = .returned (.tuple #[okV, .bool true]) ∧ ZB w' ∧ KB bs ts ms rs w w' := by
  obtain ⟨S, hS⟩ : ∃ S, S = w.heap.size := ⟨_, rfl⟩
  obtain ⟨S1, hS1⟩ : ∃ S1, S1 = S + 1 := ⟨_, rfl⟩
  obtain ⟨w1, hw1⟩ : ∃ w1, w1 = (w.alloc (.cells #[.int .u8 4, .int .i64 0, .slice ra rn rc, .string ⟨#[]⟩, .int .i64 0] 42)).alloc (.cells #[.int .i64 0, .bool false, .slice none 0 0, .slice none 0 0, .slice none 0 0] 38) := ⟨_, rfl⟩
  have b1 : Below w.heap.size w w1 := by rw [hw1]; exact below_alloc (below_alloc (Below.refl _ _) _) _
  have g1 : w1.heap[S1]? = some (.cells #[.int .i64 0, .bool false, .slice none 0 0, .slice none 0 0, .slice none 0 0] 38 (0, 0)) := by
    rw [hw1, hS1, hS]
    have := heap_alloc_new (w.alloc (.cells #[.int .u8 4, .int .i64 0, .slice ra rn rc, .string ⟨#[]⟩, .int .i64 0] 42)) (.cells #[.int .i64 0, .bool false, .slice none 0 0, .slice none 0 0, .slice none 0 0] 38)
    rw [show (w.alloc (.cells #[.int .u8 4, .int .i64 0, .slice ra rn rc, .string ⟨#[]⟩, .int .i64 0] 42)).heap.size = w.heap.size + 1 by simp] at this
    exact this
  have g0 : w1.heap[S]? = some (.cells #[.int .u8 4, .int .i64 0, .slice ra rn rc, .string ⟨#[]⟩, .int .i64 0] 42 (0, 0)) := by
    rw [hw1, hS]; exact below_heap (below_alloc (Below.refl _ _) _) (heap_alloc_new _ _)
  have c0 := cell_at g0 (i := 0) (v := .int .u8 4) rfl
  have c1 := cell_at g0 (i := 1) (v := .int .i64 0) rfl
  have c2 := cell_at g0 (i := 2) (v := .slice ra rn rc) rfl
  have c3 := cell_at g0 (i := 3) (v := .string ⟨#[]⟩) rfl
  have c4 := cell_at g0 (i := 4) (v := .int .i64 0) rfl
  have HH := hid (HP w1 b1)
  have W1 := hid (And.intro (show S1 = w.heap.size + 1 by omega) (And.intro hS hw1))
  have G1 := hid (And.intro g1 (And.intro b1 (And.intro ht hZ)))
  unfold okV at HH ⊢
  clear HP g1 b1 g0 hw1 hS hS1 ht hZ
  go_enter Tryz.func20, Tryz.ntmps20
  go_upto_region 1 with fail
  rw [← W1.out.1, ← W1.out.2.1, ← W1.out.2.2]
  go_wp2_with fail
  with_reducible refine HH.out.mono ?_
  rintro e w2 ⟨rfl, zb, kb⟩
  have gR := kb.1.cells G1.out.1 ⟨G1.out.2.2.1, by decide⟩
  have F4 := hid (And.intro ((KB.of_below (bs := bs) (ts := ts) (ms := ms) (rs := rs) G1.out.2.1).trans kb) (And.intro (show w.heap.size ≤ S1 by have := W1.out; omega) zb))
  clear c0 c1 c2 c3 c4 HH zb kb
  have q0 := cell_at gR (i := 0) rfl
  have q1 := cell_at gR (i := 1) rfl
  have q2 := cell_at gR (i := 2) rfl
  have q3 := cell_at gR (i := 3) rfl
  have q4 := cell_at gR (i := 4) rfl
  have f0 := free_at gR 0
  have f1 := free_at gR 1
  have f2 := free_at gR 2
  have f3 := free_at gR 3
  have f4 := free_at gR 4
  have GR := hid gR
  clear gR
  go_wp2
  obtain ⟨X4, hX4⟩ : ∃ y, y = set5 w2 S1 0 (.int .i64 0) (.bool false) (.slice none 0 0) (.slice none 0 0) (.slice none 0 0) := ⟨_, rfl⟩
  have g7 : X4.heap[S1]? = some (.cells #[.int .i64 0, .bool false, .slice none 0 0, .slice none 0 0, .slice none 0 0] 38 (0, 0)) := by rw [hX4]; exact set5_heap GR.out
  have kS : KT [38] [] [] w2 X4 := by rw [hX4]; exact (KT.refl _ _ _ _).set5 GR.out (by simp) _ _ _ _ _
  have FIN := hid (show ZB X4 ∧ KB bs ts ms rs w X4 from ⟨G1.out.2.2.2 _ _ F4.out.2.2 kS, by rw [hX4]; exact F4.out.1.set5New F4.out.2.1 _ _ _ _ _⟩)
  have G7 := hid g7
  have HX4 := hid (show (((((w2.setCell ⟨S1, 0, none⟩ (.int .i64 0)).setCell ⟨S1, 1, none⟩ (.bool false)).setCell ⟨S1, 2, none⟩ (.slice none 0 0)).setCell ⟨S1, 3, none⟩ (.slice none 0 0)).setCell ⟨S1, 4, none⟩ (.slice none 0 0)) = X4 from hX4.symm)
  clear hX4 g7 kS q0 q1 q2 q3 q4 f0 f1 f2 f3 f4
  rw [HX4.out]
  try simp only [Exit.inBlock, Exit.then]
  refine bodyPost_ret (ret_cell_tmp rfl rfl G7.out Tryz.underlying38 rfl infReply) rfl ?_
  exact ⟨rfl, FIN.out⟩
set_option maxRecDepth 100000 in
set_option maxHeartbeats 6400000 in
theorem answer_6 {w : World} {E : Nat} {y : Value} {ra : Option Addr} {rn rc : Nat} {bs : List Nat} {ts : List TypeId} {ms rs : List Nat} {ZB : World → Prop}
    (HP : ∀ w1, Below w.heap.size w w1 → Calls Tryz.prog 41 #[.pointer (some ⟨E, 0, none⟩), y] w1 fun e w' => e = .returned (.tuple #[okV, .bool false]) ∧ ZB w' ∧ KB bs ts ms rs w1 w') (ht : 38 ∉ ts) (hZ : ∀ w1 w2, ZB w1 → KT [38] [] [] w1 w2 → ZB w2) :
    Calls Tryz.prog 20 #[.pointer (some ⟨E, 0, none⟩), y, .agg #[.int .u8 6, .int .i64 0, .slice ra rn rc, .string ⟨#[]⟩, .int .i64 0]] w fun e w' => e = .returned (.tuple #[okV, .bool false]) ∧ ZB w' ∧ KB bs ts ms rs w w' := by
  obtain ⟨S, hS⟩ : ∃ S, S = w.heap.size := ⟨_, rfl⟩
  obtain ⟨S1, hS1⟩ : ∃ S1, S1 = S + 1 := ⟨_, rfl⟩
  obtain ⟨w1, hw1⟩ : ∃ w1, w1 = (w.alloc (.cells #[.int .u8 6, .int .i64 0, .slice ra rn rc, .string ⟨#[]⟩, .int .i64 0] 42)).alloc (.cells #[.int .i64 0, .bool false, .slice none 0 0, .slice none 0 0, .slice none 0 0] 38) := ⟨_, rfl⟩
  have b1 : Below w.heap.size w w1 := by rw [hw1]; exact below_alloc (below_alloc (Below.refl _ _) _) _
  have g1 : w1.heap[S1]? = some (.cells #[.int .i64 0, .bool false, .slice none 0 0, .slice none 0 0, .slice none 0 0] 38 (0, 0)) := by
    rw [hw1, hS1, hS]
    have := heap_alloc_new (w.alloc (.cells #[.int .u8 6, .int .i64 0, .slice ra rn rc, .string ⟨#[]⟩, .int .i64 0] 42)) (.cells #[.int .i64 0, .bool false, .slice none 0 0, .slice none 0 0, .slice none 0 0] 38)
    rw [show (w.alloc (.cells #[.int .u8 6, .int .i64 0, .slice ra rn rc, .string ⟨#[]⟩, .int .i64 0] 42)).heap.size = w.heap.size + 1 by simp] at this
    exact this
  have g0 : w1.heap[S]? = some (.cells #[.int .u8 6, .int .i64 0, .slice ra rn rc, .string ⟨#[]⟩, .int .i64 0] 42 (0, 0)) := by
    rw [hw1, hS]; exact below_heap (below_alloc (Below.refl _ _) _) (heap_alloc_new _ _)
  have c0 := cell_at g0 (i := 0) (v := .int .u8 6) rfl
  have c1 := cell_at g0 (i := 1) (v := .int .i64 0) rfl
  have c2 := cell_at g0 (i := 2) (v := .slice ra rn rc) rfl
  have c3 := cell_at g0 (i := 3) (v := .string ⟨#[]⟩) rfl
  have c4 := cell_at g0 (i := 4) (v := .int .i64 0) rfl
  have HH := hid (HP w1 b1)
  have W1 := hid (And.intro (show S1 = w.heap.size + 1 by omega) (And.intro hS hw1))
  have G1 := hid (And.intro g1 (And.intro b1 (And.intro ht hZ)))
  unfold okV at HH ⊢
  clear HP g1 b1 g0 hw1 hS hS1 ht hZ
  go_enter Tryz.func20, Tryz.ntmps20
  go_upto_region 1 with fail
  rw [← W1.out.1, ← W1.out.2.1, ← W1.out.2.2]
  go_wp2_with fail
  with_reducible refine HH.out.mono ?_
  rintro e w2 ⟨rfl, zb, kb⟩
  have gR := kb.1.cells G1.out.1 ⟨G1.out.2.2.1, by decide⟩
  have F4 := hid (And.intro ((KB.of_below (bs := bs) (ts := ts) (ms := ms) (rs := rs) G1.out.2.1).trans kb) (And.intro (show w.heap.size ≤ S1 by have := W1.out; omega) zb))
  clear c0 c1 c2 c3 c4 HH zb kb
  have q0 := cell_at gR (i := 0) rfl
  have q1 := cell_at gR (i := 1) rfl
  have q2 := cell_at gR (i := 2) rfl
  have q3 := cell_at gR (i := 3) rfl
  have q4 := cell_at gR (i := 4) rfl
  have f0 := free_at gR 0
  have f1 := free_at gR 1
  have f2 := free_at gR 2
  have f3 := free_at gR 3
  have f4 := free_at gR 4
  have GR := hid gR
  clear gR
  go_wp2
  obtain ⟨X4, hX4⟩ : ∃ y, y = set5 w2 S1 0 (.int .i64 0) (.bool false) (.slice none 0 0) (.slice none 0 0) (.slice none 0 0) := ⟨_, rfl⟩
  have g7 : X4.heap[S1]? = some (.cells #[.int .i64 0, .bool false, .slice none 0 0, .slice none 0 0, .slice none 0 0] 38 (0, 0)) := by rw [hX4]; exact set5_heap GR.out
  have kS : KT [38] [] [] w2 X4 := by rw [hX4]; exact (KT.refl _ _ _ _).set5 GR.out (by simp) _ _ _ _ _
  have FIN := hid (show ZB X4 ∧ KB bs ts ms rs w X4 from ⟨G1.out.2.2.2 _ _ F4.out.2.2 kS, by rw [hX4]; exact F4.out.1.set5New F4.out.2.1 _ _ _ _ _⟩)
  have G7 := hid g7
  have HX4 := hid (show (((((w2.setCell ⟨S1, 0, none⟩ (.int .i64 0)).setCell ⟨S1, 1, none⟩ (.bool false)).setCell ⟨S1, 2, none⟩ (.slice none 0 0)).setCell ⟨S1, 3, none⟩ (.slice none 0 0)).setCell ⟨S1, 4, none⟩ (.slice none 0 0)) = X4 from hX4.symm)
  clear hX4 g7 kS q0 q1 q2 q3 q4 f0 f1 f2 f3 f4
  rw [HX4.out]
  try simp only [Exit.inBlock, Exit.then]
  refine bodyPost_ret (ret_cell_tmp rfl rfl G7.out Tryz.underlying38 rfl infReply) rfl ?_
  exact ⟨rfl, FIN.out⟩
def cliS (a b : Cli) : Nat → Cli
  | 0 => a
  | 1 => b
  | _ => cli0
theorem engS_get {L P : Nat} {a b : Cli} {h : Value} {n : Int} {c : Nat} (hc : c < 8) : (engS L P a b h n)[2 + c * 9]? = some (.int .i64 (cliS a b c).tx) ∧ (engS L P a b h n)[2 + c * 9 + 1]? = some (.int .i64 (cliS a b c).entry) ∧ (engS L P a b h n)[2 + c * 9 + 2]? = some (.bool (cliS a b c).waits) := by
  match c, hc with
  | 0, _ => exact ⟨rfl, rfl, rfl⟩
  | 1, _ => exact ⟨rfl, rfl, rfl⟩
  | 2, _ => exact ⟨rfl, rfl, rfl⟩
  | 3, _ => exact ⟨rfl, rfl, rfl⟩
  | 4, _ => exact ⟨rfl, rfl, rfl⟩
  | 5, _ => exact ⟨rfl, rfl, rfl⟩
  | 6, _ => exact ⟨rfl, rfl, rfl⟩
  | 7, _ => exact ⟨rfl, rfl, rfl⟩
theorem cliS_no {a b : Cli} (ha : a.waits = false) (hb : b.waits = false) : ∀ c, (cliS a b c).waits = false
  | 0 => ha
  | 1 => hb
  | _ + 2 => rfl
section
variable {w : World} {E L P : Nat} {a b : Cli} {hv : Value} {now : Int}
set_option maxRecDepth 100000 in
theorem pending_k {c : Nat} (hE : w.heap[E]? = some (.cells (engS L P a b hv now) 64 (0, 0))) (hc : c < 8) : Calls Tryz.prog 26 #[.pointer (some ⟨E, 0, none⟩), .int .i64 (c : Int)] w fun e w' => e = .returned (.bool (cliS a b c).waits) ∧ w = w' := by
  have HO := hid (of_any (w := w) (E := E) hc)
  have k := cell_at hE (engS_get (c := c) hc).2.2
  obtain ⟨x, hx⟩ : ∃ x, x = (cliS a b c).waits := ⟨_, rfl⟩
  rw [← hx] at k ⊢
  clear hE hc hx
  go_enter Tryz.func26, Tryz.ntmps26
  go_wp2_with fail
  refine HO.out.mono ?_
  rintro e w1 ⟨rfl, rfl⟩
  clear HO
  go_wp2
  go_ret
  exact ⟨rfl, rfl⟩
theorem ephase_k {lg Q : Nat} {ph N : Int} {tk td wv : Value} (hE : w.heap[E]? = some (.cells (engS L P a b hv now) 64 (0, 0))) (hP : w.heap[P]? = some (.cells (grpC L lg Q ph tk td N wv) 113 (0, 0))) : Calls Tryz.prog 27 #[.pointer (some ⟨E, 0, none⟩)] w fun e w' => e = .returned (.int .u8 ph) ∧ w = w' := by
  have HC := hid (comm_any (cell_at hE (i := 1) (v := .pointer (some ⟨P, 0, none⟩)) rfl))
  have HP := hid (gphase_k hP)
  clear hE hP
  go_enter Tryz.func27, Tryz.ntmps27
  go_wp2_with fail
  refine HC.out.mono ?_
  rintro e w1 ⟨rfl, rfl⟩
  clear HC
  go_wp2_with fail
  refine HP.out.mono ?_
  rintro e w1 ⟨rfl, rfl⟩
  clear HP
  go_wp2
  go_ret
  exact ⟨rfl, rfl⟩
set_option maxRecDepth 100000 in
theorem quiet_f0 (hE : w.heap[E]? = some (.cells (engS L P a b hv now) 64 (0, 0))) (h2 : a.waits = true) : Calls Tryz.prog 13 #[.pointer (some ⟨E, 0, none⟩)] w fun e w' => e = .returned (.bool false) ∧ w = w' := by
  have H0 := pending_k hE (c := 0) (by omega)
  rw [show cliS a b 0 = a from rfl, h2, show ((0 : Nat) : Int) = 0 from rfl] at H0
  have HQ := hid H0
  clear H0 hE h2
  go_enter Tryz.func13, Tryz.ntmps13
  go_wp2
  refine wp_loop_rounds 1 ?_
  rw [rounds_succ]
  go_wp2_with fail
  refine HQ.out.mono ?_
  rintro e w1 ⟨rfl, rfl⟩
  go_wp2
  go_ret
  exact ⟨rfl, rfl⟩
set_option maxRecDepth 100000 in
theorem quiet_f1 (hE : w.heap[E]? = some (.cells (engS L P a b hv now) 64 (0, 0))) (h1 : a.waits = false) (h2 : b.waits = true) : Calls Tryz.prog 13 #[.pointer (some ⟨E, 0, none⟩)] w fun e w' => e = .returned (.bool false) ∧ w = w' := by
  have H0 := pending_k hE (c := 0) (by omega)
  rw [show cliS a b 0 = a from rfl, h1, show ((0 : Nat) : Int) = 0 from rfl] at H0
  have HQ := hid H0
  have H1 := pending_k hE (c := 1) (by omega)
  rw [show cliS a b 1 = b from rfl, h2, show ((1 : Nat) : Int) = 1 from rfl] at H1
  have HR := hid H1
  clear H0 H1 hE h1 h2
  go_enter Tryz.func13, Tryz.ntmps13
  go_wp2
  refine wp_loop_rounds 2 ?_
  rw [rounds_succ]
  go_wp2_with fail
  refine HQ.out.mono ?_
  rintro e w1 ⟨rfl, rfl⟩
  clear HQ
  go_wp2
  rw [rounds_succ]
  go_wp2_with fail
  refine HR.out.mono ?_
  rintro e w1 ⟨rfl, rfl⟩
  go_wp2
  go_ret
  exact ⟨rfl, rfl⟩
set_option maxRecDepth 100000 in
theorem quiet_t {lg Q : Nat} {N : Int} {tk td wv : Value} (hE : w.heap[E]? = some (.cells (engS L P a b hv now) 64 (0, 0))) (hP : w.heap[P]? = some (.cells (grpC L lg Q 0 tk td N wv) 113 (0, 0))) (ha : a.waits = false) (hb : b.waits = false) : Calls Tryz.prog 13 #[.pointer (some ⟨E, 0, none⟩)] w fun e w' => e = .returned (.bool true) ∧ w = w' := by
  have HQ : Hid (∀ c : Nat, c < 8 → Calls Tryz.prog 26 #[.pointer (some ⟨E, 0, none⟩), .int .i64 (c : Int)] w fun e w' => e = .returned (.bool false) ∧ w = w') := hid (fun c hc => by
    have := pending_k hE hc
    rw [cliS_no ha hb c] at this
    exact this)
  have HP := hid (ephase_k hE hP)
  clear hE hP ha hb
  go_enter Tryz.func13, Tryz.ntmps13
  go_wp2
  go_loopw [4] (fun v wr => ∃ k : Nat, k ≤ 8 ∧ v = .int .i64 (k : Int) ∧ Hid (wr = w)) (fun v _ => 8 - (intOf v).toNat)
  case atStart => exact ⟨0, by omega, rfl, hid rfl⟩
  case round =>
    obtain ⟨k, hk, rfl, hw⟩ := hrel
    obtain rfl := hw.out
    clear hw
    by_cases hlt : k < 8
    · have t1 : decide ((k : Int) < 8) = true := by simp; omega
      have wk : wrap64 ((k : Int) + 1) = (k : Int) + 1 := by unfold wrap64; omega
      have HC := hid (HQ.out k hlt)
      have KL := hid hlt
      clear hlt
      go_wp2_with fail
      refine HC.out.mono ?_
      rintro e w1 ⟨rfl, rfl⟩
      clear HC
      go_wp2
      go_roundw
      case rel => exact ⟨k + 1, KL.out, by go_num, hid True.intro⟩
      case measure => have := KL.out; simp [intOf]; omega
    · obtain rfl : k = 8 := by omega
      rw [show ((8 : Nat) : Int) = 8 from rfl]
      go_wp2_with fail
      refine HP.out.mono ?_
      rintro e w1 ⟨rfl, rfl⟩
      go_wp2
      go_ret
      exact ⟨rfl, rfl⟩
end
theorem HistK.set {w : World} {hv : Value} {n k i : Nat} {v : Value} (h : HistK w hv n) (hk : hv.ownBlock = some k) : HistK (w.setCell ⟨k, i, none⟩ v) hv n := by
  obtain ⟨xs, hl, h⟩ := h
  rcases h with ⟨rfl, _⟩ | ⟨g, cap, cur, rfl, hb, hh, h1, h2, h3, h4⟩
  · cases hk
  · cases hk
    have hc : (cur.setIfInBounds i v).size = cap * 15 := by simp [h3]
    exact ⟨(cur.setIfInBounds i v).toList.take (n * 15), by rw [List.length_take, Array.length_toList, hc]; omega, Or.inr ⟨g, cap, _, rfl, hb, heap_set hh, h1, h2, hc, rfl⟩⟩
theorem HistK.open_ {w : World} {hv : Value} {n : Nat} (h : HistK w hv n) (hn : 0 < n) : ∃ g c, hv = .slice (some ⟨g, 0, none⟩) n c ∧ n ≤ c ∧ c ≤ 9223372036854775807 ∧ (∀ i, i < n * 15 → ∃ v, w.cell? ⟨g, i, none⟩ = some v) ∧ (∀ i, w.frozen? ⟨g, i, none⟩ = false) ∧ ∃ cur, w.heap[g]? = some (.cells cur 81 (0, 0)) := by
  obtain ⟨xs, hl, h⟩ := h
  rcases h with ⟨_, h1⟩ | ⟨g, cap, cur, rfl, hb, hh, h1, h2, h3, h4⟩
  · omega
  · refine ⟨g, cap, rfl, h1, h2, fun i hi => ?_, fun i => free_at hh i, cur, hh⟩
    have hlt : i < cur.size := by
      rw [h3]
      have := Nat.mul_le_mul_right 15 h1
      omega
    exact ⟨cur[i], cell_at hh (by simp [hlt])⟩
section
variable {w : World} {E L P : Nat} {a b : Cli} {hv : Value} {now : Int}
set_option maxRecDepth 100000 in
theorem batches_k {Tb tc S O R n rc SM : Nat} {next m : Int} (hE : w.heap[E]? = some (.cells (engS L P a b hv now) 64 (0, 0))) (hL : w.heap[L]? = some (.cells (ledC Tb tc S O next R n rc) 95 (0, 0))) (hS : w.heap[S]? = some (.cells (stoC SM m) 137 (0, 0))) : Calls Tryz.prog 11 #[.pointer (some ⟨E, 0, none⟩)] w fun e w' => e = .returned (.int .i64 m) ∧ w = w' := by
  have k0 := cell_at hE (i := 0) (v := .pointer (some ⟨L, 0, none⟩)) rfl
  have H := hid (lnow_any hL hS)
  clear hE hL hS
  go_enter Tryz.func11, Tryz.ntmps11
  go_wp2_with fail
  refine H.out.mono ?_
  rintro e w1 ⟨rfl, rfl⟩
  go_wp2
  go_ret
  exact ⟨rfl, rfl⟩
end
end Go.Proofs.YtnidgljkbmceaaaGreatDoor
