/- TopSkew's walks: the committer. -/
import Derived.Test.YtnidgljkbmceaaaGreatDoorG18
import Derived.Test.YtnidgljkbmceaaaGreatDoorPn
set_option linter.unusedVariables false
set_option linter.unusedSimpArgs false
namespace Go.Proofs.YtnidgljkbmceaaaGreatDoor
open Go.RowKit PrintLast Go.Maps Go.MapKept
def grpC (L lg Q : Nat) (ph : Int) (tk td : Value) (N : Int) (wv : Value) : Array Value := #[.pointer (some ⟨L, 0, none⟩), .pointer (some ⟨lg, 0, none⟩), .pointer (some ⟨Q, 0, none⟩), .int .u8 ph, .bool false, tk, td, .int .i64 N, wv]
section
variable {w : World} {P L lg Q : Nat} {ph N : Int} {tk td wv : Value}
theorem gphase_k (h : w.heap[P]? = some (.cells (grpC L lg Q ph tk td N wv) 113 (0, 0))) : Calls Tryz.prog 44 #[.pointer (some ⟨P, 0, none⟩)] w fun e w' => e = .returned (.int .u8 ph) ∧ w = w' := by
  have c3 := cell_at h (i := 3) (v := .int .u8 ph) rfl
  clear h
  go_enter Tryz.func44, Tryz.ntmps44
  go_wp2
  go_ret
  exact ⟨rfl, rfl⟩
theorem gwaiting_k {a b c d f n : Int} (h : w.heap[P]? = some (.cells (grpC L lg Q ph tk td N wv) 113 (0, 0))) (hq : w.heap[Q]? = some (.cells (quC a b c d f n) 160 (0, 0))) : Calls Tryz.prog 84 #[.pointer (some ⟨P, 0, none⟩)] w fun e w' => e = .returned (.int .i64 n) ∧ w = w' := by
  have c2 := cell_at h (i := 2) (v := .pointer (some ⟨Q, 0, none⟩)) rfl
  have H := hid (qlen_any hq)
  clear h hq
  go_enter Tryz.func84, Tryz.ntmps84
  go_wp2_with fail
  refine H.out.mono ?_
  rintro e _ ⟨rfl, rfl⟩
  go_wp2
  go_ret
  exact ⟨rfl, rfl⟩
set_option maxHeartbeats 1600000 in
theorem gsubmit_k {A : Option Addr} {c : Nat} {id : Int} {qb : Array Value} (h : w.heap[P]? = some (.cells (grpC L lg Q ph (.slice A 0 c) td N wv) 113 (0, 0)))
    (HO : Calls Tryz.prog 142 #[.pointer (some ⟨L, 0, none⟩), .int .i64 id] w fun e w' => e = .returned (.bool true) ∧ w = w')
    (HH : Calls Tryz.prog 143 #[.pointer (some ⟨Q, 0, none⟩), .int .i64 id] w fun e w' => e = .returned (.bool false) ∧ Below w.heap.size w w')
    (HP : ∀ w1, Below w.heap.size w w1 → Calls Tryz.prog 145 #[.pointer (some ⟨Q, 0, none⟩), .int .i64 id] w1 fun e w' => e = .returned (.bool true) ∧ w'.heap[Q]? = some (.cells qb 160 (0, 0)) ∧ KB [Q] [160] [] [] w1 w') :
    Calls Tryz.prog 80 #[.pointer (some ⟨P, 0, none⟩), .int .i64 id] w fun e w' => e = .returned (.int .i64 0) ∧ w'.heap[Q]? = some (.cells qb 160 (0, 0)) ∧ KB [Q] [160] [] [] w w' := by
  have c0 := cell_at h (i := 0) (v := .pointer (some ⟨L, 0, none⟩)) rfl
  have c2 := cell_at h (i := 2) (v := .pointer (some ⟨Q, 0, none⟩)) rfl
  have c4 := cell_at h (i := 4) (v := .bool false) rfl
  have H0 := hid h
  have O1 := hid HO
  have O2 := hid HH
  have O3 := hid HP
  clear h HO HH HP
  go_enter Tryz.func80, Tryz.ntmps80
  go_wp2_with fail
  refine O1.out.mono ?_
  rintro e _ ⟨rfl, rfl⟩
  go_wp2_with fail
  refine O2.out.mono ?_
  rintro e w1 ⟨rfl, b1⟩
  have h1 := below_heap b1 H0.out
  have d2 := cell_at h1 (i := 2) (v := .pointer (some ⟨Q, 0, none⟩)) rfl
  have d5 := cell_at h1 (i := 5) (v := .slice A 0 c) rfl
  have HC := hid (contains_none (w := w1) (A := A) (c := c) (x := id))
  have HP := hid (O3.out w1 b1)
  have B1 := hid b1
  clear h1 b1 c0 c2 c4
  go_wp2_with fail
  refine HC.out.mono ?_
  rintro e _ ⟨rfl, rfl⟩
  go_wp2_with fail
  refine HP.out.mono ?_
  rintro e w2 ⟨rfl, q2, k2⟩
  have FF := hid (And.intro q2 ((KB.of_below (bs := [Q]) (ts := [160]) (ms := []) (rs := []) B1.out).trans k2))
  clear q2 k2 d2 d5
  go_wp2
  go_ret
  exact ⟨rfl, FF.out⟩
theorem gnew_k : Calls Tryz.prog 17 #[.pointer (some ⟨L, 0, none⟩), .pointer (some ⟨lg, 0, none⟩)] w fun e w' => ∃ P Q : Nat, e = .returned (.pointer (some ⟨P, 0, none⟩)) ∧ w'.heap[P]? = some (.cells (grpC L lg Q 0 (.slice none 0 0) (.slice none 0 0) 0 (.slice none 0 0)) 113 (0, 0)) ∧ w'.heap[Q]? = some (.cells (quC 0 0 0 0 0 0) 160 (0, 0)) ∧ w.heap.size ≤ P ∧ w.heap.size ≤ Q ∧ Below w.heap.size w w' := by
  have HQ := hid (qnew_any (w := w))
  go_enter Tryz.func17, Tryz.ntmps17
  go_wp2_with fail
  refine HQ.out.mono ?_
  rintro e w1 ⟨Q, rfl, q1, z1, b1⟩
  have BB := hid (And.intro b1 (And.intro q1 z1))
  clear HQ b1 q1 z1
  go_wp2
  go_ret
  exact ⟨w1.heap.size, Q, rfl, heap_alloc_new _ _, below_heap (below_alloc (Below.refl _ w1) _) BB.out.2.1, BB.out.1.size, BB.out.2.2, below_alloc BB.out.1 _⟩
theorem gstep0_k {n : Nat} {l : List Value} {a b c d f : Int} {qb : Array Value} (hn : 1 ≤ n ∧ n ≤ 3) (h : w.heap[P]? = some (.cells (grpC L lg Q 0 tk td N wv) 113 (0, 0))) (hq : w.heap[Q]? = some (.cells (quC a b c d f n) 160 (0, 0)))
    (HP : Calls Tryz.prog 85 #[.pointer (some ⟨Q, 0, none⟩), .int .i64 3] w fun e w' => ∃ g c', e = .returned (.slice (some ⟨g, 0, none⟩) n c') ∧ w'.ownsRow 0 3 1 (.slice (some ⟨g, 0, none⟩) n c') n l ∧ w.heap.size ≤ g ∧ w'.heap[Q]? = some (.cells qb 160 (0, 0)) ∧ KB [Q] [160] [] [] w w') :
    Calls Tryz.prog 45 #[.pointer (some ⟨P, 0, none⟩)] w fun e w' => e = .returned (.slice none 0 0) ∧ ∃ g c', w'.heap[P]? = some (.cells (grpC L lg Q 1 (.slice (some ⟨g, 0, none⟩) n c') td N wv) 113 (0, 0)) ∧ w'.ownsRow 0 3 1 (.slice (some ⟨g, 0, none⟩) n c') n l ∧ w.heap.size ≤ g ∧ w'.heap[Q]? = some (.cells qb 160 (0, 0)) ∧ KB [P, Q] [113, 160] [] [] w w' := by
  have H1 := hid (gphase_k h)
  have H2 := hid (gwaiting_k h hq)
  have c2 := cell_at h (i := 2) (v := .pointer (some ⟨Q, 0, none⟩)) rfl
  have H3 := hid HP
  have H0 := hid (And.intro h hn)
  have tn : decide ((n : Int) > 0) = true := by simp; omega
  have tn' : ((0 : Int) < (n : Int)) = True := by simp; omega
  have tm : decide (0 < n) = true := by simp; omega
  clear h hq HP hn
  go_enter Tryz.func45, Tryz.ntmps45
  go_wp2_with fail
  refine H1.out.mono ?_
  rintro e _ ⟨rfl, rfl⟩
  go_wp2_with fail
  refine H2.out.mono ?_
  rintro e _ ⟨rfl, rfl⟩
  go_wp2_with fail
  refine H3.out.mono ?_
  rintro e w1 ⟨g, c', rfl, o1, z1, q1, k1⟩
  have h1 := k1.1.cells H0.out.1 (by decide)
  have f5 := free_at h1 5
  have d5 := cell_at h1 (i := 5) (v := tk) rfl
  have g5 := heap_set (i := 5) (v := .slice (some ⟨g, 0, none⟩) n c') h1
  have f3 := free_at g5 3
  have d3 := cell_at g5 (i := 3) (v := .int .u8 0) rfl
  have kk : KT [113] [] [] w1 ((w1.setCell ⟨P, 5, none⟩ (.slice (some ⟨g, 0, none⟩) n c')).setCell ⟨P, 3, none⟩ (.int .u8 1)) := ((KT.refl _ _ _ _).set (p := ⟨P, 5, none⟩) h1 (by simp) _).set (p := ⟨P, 3, none⟩) h1 (by simp) _
  have k2 : KB [P, Q] [113, 160] [] [] w w1 := k1.mono (by simp) (by simp) (by simp) (by simp)
  have FF := hid (show ((w1.setCell ⟨P, 5, none⟩ (.slice (some ⟨g, 0, none⟩) n c')).setCell ⟨P, 3, none⟩ (.int .u8 1)).heap[P]? = some (.cells (grpC L lg Q 1 (.slice (some ⟨g, 0, none⟩) n c') td N wv) 113 (0, 0)) ∧ World.ownsRow ((w1.setCell ⟨P, 5, none⟩ (.slice (some ⟨g, 0, none⟩) n c')).setCell ⟨P, 3, none⟩ (.int .u8 1)) 0 3 1 (.slice (some ⟨g, 0, none⟩) n c') n l ∧ w.heap.size ≤ g ∧ ((w1.setCell ⟨P, 5, none⟩ (.slice (some ⟨g, 0, none⟩) n c')).setCell ⟨P, 3, none⟩ (.int .u8 1)).heap[Q]? = some (.cells qb 160 (0, 0)) ∧ KB [P, Q] [113, 160] [] [] w ((w1.setCell ⟨P, 5, none⟩ (.slice (some ⟨g, 0, none⟩) n c')).setCell ⟨P, 3, none⟩ (.int .u8 1)) from
    ⟨(heap_set g5).trans rfl, own_keeps o1 kk ⟨by decide, by decide⟩, z1, kk.cells q1 (by decide), (k2.set (p := ⟨P, 5, none⟩) H0.out.1 (by simp) (by simp) _).set (p := ⟨P, 3, none⟩) H0.out.1 (by simp) (by simp) _⟩)
  clear h1 g5 kk k1 k2 o1 z1 q1 c2 tn tn'
  go_wp2
  go_ret
  exact ⟨rfl, g, c', FF.out⟩
end
section
variable {w : World} {P L lg Q : Nat} {ph N : Int} {tk td wv : Value}
set_option maxRecDepth 100000 in
set_option maxHeartbeats 3200000 in
theorem gform_k {n : Nat} {M : Int} {W : Nat → Nat → Nat → Nat → World → Prop} (h : w.heap[P]? = some (.cells (grpC L lg Q ph tk td N wv) 113 (0, 0))) (hn : 1 ≤ n)
    (HF : ∀ w1, Below w.heap.size w w1 → Calls Tryz.prog 154 #[.pointer (some ⟨L, 0, none⟩), tk] w1 fun e w' => ∃ g c go co, e = .returned (.tuple #[.agg #[.int .i64 M, .slice (some ⟨g, 0, none⟩) n c], .slice (some ⟨go, 0, none⟩) n co]) ∧ W g c go co w' ∧ Below w1.heap.size w1 w') :
    Calls Tryz.prog 86 #[.pointer (some ⟨P, 0, none⟩)] w fun e w' => e = .returned (.tuple #[]) ∧ ∃ w1 g c go co, W g c go co w1 ∧ Below w.heap.size w w1 ∧ w'.heap[P]? = some (.cells (grpC L lg Q 2 tk (.slice (some ⟨go, 0, none⟩) n co) M (.slice (some ⟨g, 0, none⟩) n c)) 113 (0, 0)) ∧ KB [P] [113] [] [] w1 w' := by
  have c0 := cell_at h (i := 0) (v := .pointer (some ⟨L, 0, none⟩)) rfl
  have c5 := cell_at h (i := 5) (v := tk) rfl
  have H0 := hid h
  have O1 := hid HF
  have tn : ((n : Int) == 0) = false := by simp; omega
  clear h HF
  go_enter Tryz.func86, Tryz.ntmps86
  go_upto_region 0 with fail
  refine start_ (n := 20) (S := fun w' => w'.cell? ⟨P, 0, none⟩ = some (.pointer (some ⟨L, 0, none⟩)) ∧ w'.cell? ⟨P, 5, none⟩ = some tk ∧ Below w.heap.size w w') (ds := [16, 19]) (tf 20 0) (by kernel_rfl) rfl rfl ⟨c0, c5, (Below.refl w.heap.size w).drew⟩ (fun hHeld => ?_); refine pure_ (i := 0) (N := some 3) (v := ?_) (a' := ?_) (tf 20 1) rfl rfl (by kernel_rfl) (fun _ _ _ h => h) (Or.inl ⟨by rfl, ?_⟩) ?_ ?_; rotate_left; (· intro w'; go_simp; (with_reducible rfl)); rotate_left; (· simp only [pn_]; rfl); refine pure_ (i := 1) (N := some 4) (v := ?_) (a' := ?_) (tf 20 3) rfl rfl (by kernel_rfl) (fun _ _ _ h => h) (Or.inl ⟨by rfl, ?_⟩) ?_ ?_; rotate_left; (· intro w'; go_simp; (with_reducible rfl)); rotate_left; (· simp only [pn_]; rfl); refine pure_ (i := 2) (N := some 5) (v := ?_) (a' := ?_) (tf 20 7) rfl rfl (by kernel_rfl) (fun _ _ _ h => h) (Or.inl ⟨by rfl, ?_⟩) ?_ ?_; rotate_left; (· intro w'; go_simp; (with_reducible rfl)); rotate_left; (· simp only [pn_]; rfl); refine pure_ (i := 3) (N := some 6) (v := ?_) (a' := ?_) (tf 20 15) rfl rfl (by kernel_rfl) (fun _ _ _ h => h) (Or.inl ⟨by rfl, ?_⟩) ?_ ?_; rotate_left; (· intro w'; go_simp; (with_reducible rfl)); rotate_left; (· simp only [pn_]; rfl); refine pure_ (i := 4) (N := some 7) (v := ?_) (a' := ?_) (tf 20 31) rfl rfl (by kernel_rfl) (fun _ _ _ h => h) (Or.inl ⟨by rfl, ?_⟩) ?_ ?_; rotate_left; (· intro w'; go_simp; (with_reducible rfl)); rotate_left; (· simp only [pn_]; rfl); refine pure_ (i := 6) (N := some 9) (v := ?_) (a' := ?_) (tf 20 95) rfl rfl (by kernel_rfl) (fun _ _ _ h => h) (Or.inl ⟨by rfl, ?_⟩) ?_ ?_; rotate_left; (· intro w'; go_simp; (with_reducible rfl)); rotate_left; (· simp only [pn_]; rfl); refine pure_ (i := 7) (N := some 10) (v := ?_) (a' := ?_) (tf 20 223) rfl rfl (by kernel_rfl) (fun _ _ _ h => h) (Or.inl ⟨by rfl, ?_⟩) ?_ ?_; rotate_left; (· intro w'; go_simp; (with_reducible rfl)); rotate_left; (· simp only [pn_]; rfl); refine pure_ (i := 8) (N := some 11) (v := ?_) (a' := ?_) (tf 20 479) rfl rfl (by kernel_rfl) (fun _ _ _ h => h) (Or.inl ⟨by rfl, ?_⟩) ?_ ?_; rotate_left; (· intro w'; go_simp; (with_reducible rfl)); rotate_left; (· simp only [pn_]; rfl); refine take_ (i := 5) (N := some 8) (v := ?_) (a' := ?_) (tf 20 511) rfl rfl (by kernel_rfl) (fun _ _ _ h => h) (Or.inl ⟨by rfl, ?_⟩) hHeld ?_ ?_; rotate_left; (· rintro w' ⟨s0, s1, s2⟩; go_simp; (with_reducible rfl)); rotate_left; (· simp only [pn_]; rfl); refine take_ (i := 9) (N := some 12) (v := ?_) (a' := ?_) (tf 20 1023) rfl rfl (by kernel_rfl) (fun _ _ _ h => h) (Or.inl ⟨by rfl, ?_⟩) hHeld ?_ ?_; rotate_left; (· rintro w' ⟨s0, s1, s2⟩; go_simp; (with_reducible rfl)); rotate_left; (· simp only [pn_]; rfl); refine one_ (i := 10) (N := some 13) (tf 20 2047) rfl rfl (by kernel_rfl) (by decide) (fun K hK => ?_); refine goes_ Tryz.func154 (by kernel_rfl) rfl #[.pointer (some ⟨L, 0, none⟩), tk] (by rfl) rfl rfl (by simp only [List.map_toArray, List.map_cons, List.map_nil]; rfl) ?_; (with_reducible refine ((O1.out _ hHeld.2.2)).mono ?_); rintro e w1 ⟨g, c, go, co, rfl, ww, b1⟩; refine ⟨_, rfl, ?_⟩; have b01 := below_then hHeld.2.2 b1; have h1 := below_heap b01 H0.out; have f6 := free_at h1 6; have f7 := free_at h1 7; have f8 := free_at h1 8; have d6 := cell_at h1 (i := 6) (v := td) rfl; have d7 := cell_at h1 (i := 7) (v := .int .i64 N) rfl; have d8 := cell_at h1 (i := 8) (v := wv) rfl; refine hK.out _ _ ⟨(below_cell b1 hHeld.1), (below_cell b1 hHeld.2.1), b01⟩ (fun hHeld => ?_); clear hK K; refine norm_ (a' := ?_) ?_ ?_; rotate_left; (· show Act.put _ (some 13) _ = _; simp only [pn_]; rfl); refine pure_ (i := 11) (N := some 2) (v := ?_) (a' := ?_) (tf 20 4095) rfl rfl (by kernel_rfl) (fun _ _ _ h => h) (Or.inl ⟨by rfl, ?_⟩) ?_ ?_; rotate_left; (· intro w'; go_simp; (with_reducible rfl)); rotate_left; (· simp only [pn_]; rfl); refine pure_ (i := 12) (N := some 14) (v := ?_) (a' := ?_) (tf 20 8191) rfl rfl (by kernel_rfl) (fun _ _ _ h => h) (Or.inl ⟨by rfl, ?_⟩) ?_ ?_; rotate_left; (· intro w'; go_simp; (with_reducible rfl)); rotate_left; (· simp only [pn_]; rfl); refine pure_ (i := 13) (N := some 15) (v := ?_) (a' := ?_) (tf 20 16383) rfl rfl (by kernel_rfl) (fun _ _ _ h => h) (Or.inl ⟨by rfl, ?_⟩) ?_ ?_; rotate_left; (· intro w'; go_simp; (with_reducible rfl)); rotate_left; (· simp only [pn_]; rfl); refine pure_ (i := 14) (N := some 16) (v := ?_) (a' := ?_) (tf 20 32767) rfl rfl (by kernel_rfl) (fun _ _ _ h => h) (Or.inl ⟨by rfl, ?_⟩) ?_ ?_; rotate_left; (· intro w'; go_simp; (with_reducible rfl)); rotate_left; (· simp only [pn_]; rfl); refine pure_ (i := 15) (N := some 17) (v := ?_) (a' := ?_) (tf 20 65535) rfl rfl (by kernel_rfl) (fun _ _ _ h => h) (Or.inl ⟨by rfl, ?_⟩) ?_ ?_; rotate_left; (· intro w'; go_simp; (with_reducible rfl)); rotate_left; (· simp only [pn_]; rfl); refine last_ (i := 16) (N := none) (tf 20 131071) rfl rfl (by kernel_rfl) (by decide) (fun K hK => ?_); refine skip_ (w1 := ?_) (by rfl) rfl ?_ ?_; rotate_left; (· go_simp; rfl); refine hK.out _ _ ?_; clear hK K; refine pure_ (i := 17) (N := some 18) (v := ?_) (a' := ?_) (tf 20 262143) rfl rfl (by kernel_rfl) (fun _ _ _ h => h) (Or.inl ⟨by rfl, ?_⟩) ?_ ?_; rotate_left; (· intro w'; go_simp; (with_reducible rfl)); rotate_left; (· simp only [pn_]; rfl); refine pure_ (i := 18) (N := some 19) (v := ?_) (a' := ?_) (tf 20 524287) rfl rfl (by kernel_rfl) (fun _ _ _ h => h) (Or.inl ⟨by rfl, ?_⟩) ?_ ?_; rotate_left; (· intro w'; go_simp; (with_reducible rfl)); rotate_left; (· simp only [pn_]; rfl); refine last_ (i := 19) (N := none) (tf 20 1048575) rfl rfl (by kernel_rfl) (by decide) (fun K hK => ?_); refine skip_ (w1 := ?_) (by rfl) rfl ?_ ?_; rotate_left; (· go_simp; rfl); refine hK.out _ _ ?_; clear hK K; refine done_ (by kernel_rfl) ?_
  obtain ⟨w2, hw2⟩ : ∃ y, y = ((w1.setCell ⟨P, 7, none⟩ (.int .i64 M)).setCell ⟨P, 8, none⟩ (.slice (some ⟨g, 0, none⟩) n c)).setCell ⟨P, 6, none⟩ (.slice (some ⟨go, 0, none⟩) n co) := ⟨_, rfl⟩
  have g7 := heap_set (i := 7) (v := .int .i64 M) h1
  have g8 := heap_set (i := 8) (v := .slice (some ⟨g, 0, none⟩) n c) g7
  have h2 : w2.heap[P]? = some (.cells (grpC L lg Q ph tk (.slice (some ⟨go, 0, none⟩) n co) M (.slice (some ⟨g, 0, none⟩) n c)) 113 (0, 0)) := by rw [hw2]; exact (heap_set g8).trans rfl
  have k2 : KB [P] [113] [] [] w1 w2 := by rw [hw2]; exact (((KB.refl _ _ _ _ _).set (p := ⟨P, 7, none⟩) h1 (by simp) (by simp) _).set (p := ⟨P, 8, none⟩) h1 (by simp) (by simp) _).set (p := ⟨P, 6, none⟩) h1 (by simp) (by simp) _
  rw [← hw2]
  have e8 := cell_at h2 (i := 8) (v := .slice (some ⟨g, 0, none⟩) n c) rfl
  have e4 := cell_at h2 (i := 4) (v := .bool false) rfl
  have e3 := cell_at h2 (i := 3) (v := .int .u8 ph) rfl
  have k3 := free_at h2 3
  have FF := hid (And.intro ww (And.intro b01 (And.intro h1 (And.intro k2 h2))))
  clear ww b01 h1 k2 h2 g7 g8 hw2 f6 f7 f8 d6 d7 d8 c0 c5 b1
  go_wp2
  go_end0
  exact ⟨rfl, w1, g, c, go, co, FF.out.1, FF.out.2.1, (heap_set FF.out.2.2.2.2).trans rfl, FF.out.2.2.2.1.set (p := ⟨P, 3, none⟩) FF.out.2.2.1 (by simp) (by simp) _⟩
end
section
variable {w : World} {P L lg Q : Nat} {ph N : Int} {tk td wv : Value}
theorem gstep1_k {n : Nat} {M : Int} {W : Nat → Nat → Nat → Nat → World → Prop} (h : w.heap[P]? = some (.cells (grpC L lg Q 1 tk td N wv) 113 (0, 0))) (hn : 1 ≤ n)
    (HF : ∀ w1, Below w.heap.size w w1 → Calls Tryz.prog 154 #[.pointer (some ⟨L, 0, none⟩), tk] w1 fun e w' => ∃ g c go co, e = .returned (.tuple #[.agg #[.int .i64 M, .slice (some ⟨g, 0, none⟩) n c], .slice (some ⟨go, 0, none⟩) n co]) ∧ W g c go co w' ∧ Below w1.heap.size w1 w') :
    Calls Tryz.prog 45 #[.pointer (some ⟨P, 0, none⟩)] w fun e w' => e = .returned (.slice none 0 0) ∧ ∃ w1 g c go co, W g c go co w1 ∧ Below w.heap.size w w1 ∧ w'.heap[P]? = some (.cells (grpC L lg Q 2 tk (.slice (some ⟨go, 0, none⟩) n co) M (.slice (some ⟨g, 0, none⟩) n c)) 113 (0, 0)) ∧ KB [P] [113] [] [] w1 w' := by
  have H1 := hid (gphase_k h)
  have H2 := hid (gform_k h hn HF)
  clear h HF hn
  go_enter Tryz.func45, Tryz.ntmps45
  go_wp2_with fail
  refine H1.out.mono ?_
  rintro e _ ⟨rfl, rfl⟩
  go_wp2_with fail
  with_reducible refine H2.out.mono ?_
  rintro e w1 ⟨rfl, hp⟩
  have FF := hid hp
  clear hp H1 H2
  go_wp2
  go_ret
  exact ⟨rfl, FF.out⟩
set_option maxRecDepth 100000 in
set_option maxHeartbeats 3200000 in
theorem gstep2_k {tx : Nat → TxR} {n g c M b m : Nat} {r : Option Nat} {ws : List (ByteArray × Value)} (h : w.heap[P]? = some (.cells (grpC L lg Q 2 tk td (M : Int) (.slice (some ⟨g, 0, none⟩) n c)) 113 (0, 0))) (hB : BatAt w tx n g c ws) (hM : M ≤ 1000) (hl : LogK w b lg r m) (hm : m ≤ 10) {B0 : Nat} (hT : TabB B0 w) (hP : B0 ≤ P) :
    Calls Tryz.prog 45 #[.pointer (some ⟨P, 0, none⟩)] w fun e w' => e = .returned (.slice none 0 0) ∧ ∃ r1, w'.heap[P]? = some (.cells (grpC L lg Q 3 tk td (M : Int) (.slice (some ⟨g, 0, none⟩) n c)) 113 (0, 0)) ∧ LogK w' b lg r1 (m + 1) ∧ (∀ k, r1 = some k → r = some k ∨ w.heap.size ≤ k) ∧ KB ([P, b, lg] ++ r.toList) [113, 75, 101] [] r.toList w w' := by
  obtain ⟨w1, hw1⟩ : ∃ y, y = w.setCell ⟨P, 3, none⟩ (.int .u8 3) := ⟨_, rfl⟩
  have h1 : w1.heap[P]? = some (.cells (grpC L lg Q 3 tk td (M : Int) (.slice (some ⟨g, 0, none⟩) n c)) 113 (0, 0)) := by rw [hw1]; exact (heap_set h).trans rfl
  have k1 : KB [P] [113] [] [] w w1 := by rw [hw1]; exact (KB.refl _ _ _ _ _).set (p := ⟨P, 3, none⟩) h (by simp) (by simp) _
  have hB1 := hB.keeps k1.1 (by decide) (fun _ _ _ _ q => by cases q)
  have hl1 := hl.keeps k1.1 (by decide) (fun _ _ q => by cases q)
  have hT1 : Table w1 := (hT.kb k1 (by simpa using hP)).at_
  have H1 := hid (gphase_k h)
  have s3 := free_at h 3
  have d3 := cell_at h (i := 3) (v := .int .u8 2) rfl
  have c1 := cell_at h1 (i := 1) (v := .pointer (some ⟨lg, 0, none⟩)) rfl
  have c7 := cell_at h1 (i := 7) (v := .int .i64 (M : Int)) rfl
  have c8 := cell_at h1 (i := 8) (v := .slice (some ⟨g, 0, none⟩) n c) rfl
  have HE := hid (fun (wz : World) (hz : Below w1.heap.size w1 wz) => encode_any (hB1.below hz) hM)
  have HA := hid (fun (wz : World) (hz : Below w1.heap.size w1 wz) (A : Option Addr) (c' n' : Nat) (p : List UInt8) (hn : p.length = n') (hp : BSA wz A c' p) (hb : n' ≤ 100000) => wappend_k (hT1.below hz) (hl1.below hz) hm hn hp hb)
  have G1 := hid (And.intro h1 (And.intro k1 (And.intro hl hw1)))
  clear h hB hl hT hB1 hl1 hT1 h1 k1 hw1
  go_enter Tryz.func45, Tryz.ntmps45
  go_wp2_with fail
  refine H1.out.mono ?_
  rintro e _ ⟨rfl, rfl⟩
  go_upto_region 9 with fail
  rw [← G1.out.2.2.2]
  refine start_ (n := 11) (S := fun w' => w'.cell? ⟨P, 1, none⟩ = some (.pointer (some ⟨lg, 0, none⟩)) ∧ w'.cell? ⟨P, 7, none⟩ = some (.int .i64 (M : Int)) ∧ w'.cell? ⟨P, 8, none⟩ = some (.slice (some ⟨g, 0, none⟩) n c) ∧ Below w1.heap.size w1 w') (ds := [9]) (tf 11 0) (by kernel_rfl) rfl rfl ⟨c1, c7, c8, (Below.refl w1.heap.size w1).drew⟩ (fun hHeld => ?_); refine pure_ (i := 0) (N := some 30) (v := ?_) (a' := ?_) (tf 11 1) rfl rfl (by kernel_rfl) (fun _ _ _ h => h) (Or.inl ⟨by rfl, ?_⟩) ?_ ?_; rotate_left; (· intro w'; go_simp; (with_reducible rfl)); rotate_left; (· simp only [pn_]; rfl); refine pure_ (i := 1) (N := some 31) (v := ?_) (a' := ?_) (tf 11 3) rfl rfl (by kernel_rfl) (fun _ _ _ h => h) (Or.inl ⟨by rfl, ?_⟩) ?_ ?_; rotate_left; (· intro w'; go_simp; (with_reducible rfl)); rotate_left; (· simp only [pn_]; rfl); refine pure_ (i := 2) (N := some 32) (v := ?_) (a' := ?_) (tf 11 7) rfl rfl (by kernel_rfl) (fun _ _ _ h => h) (Or.inl ⟨by rfl, ?_⟩) ?_ ?_; rotate_left; (· intro w'; go_simp; (with_reducible rfl)); rotate_left; (· simp only [pn_]; rfl); refine pure_ (i := 4) (N := some 34) (v := ?_) (a' := ?_) (tf 11 23) rfl rfl (by kernel_rfl) (fun _ _ _ h => h) (Or.inl ⟨by rfl, ?_⟩) ?_ ?_; rotate_left; (· intro w'; go_simp; (with_reducible rfl)); rotate_left; (· simp only [pn_]; rfl); refine pure_ (i := 5) (N := some 35) (v := ?_) (a' := ?_) (tf 11 55) rfl rfl (by kernel_rfl) (fun _ _ _ h => h) (Or.inl ⟨by rfl, ?_⟩) ?_ ?_; rotate_left; (· intro w'; go_simp; (with_reducible rfl)); rotate_left; (· simp only [pn_]; rfl); refine pure_ (i := 6) (N := some 36) (v := ?_) (a' := ?_) (tf 11 119) rfl rfl (by kernel_rfl) (fun _ _ _ h => h) (Or.inl ⟨by rfl, ?_⟩) ?_ ?_; rotate_left; (· intro w'; go_simp; (with_reducible rfl)); rotate_left; (· simp only [pn_]; rfl); refine take_ (i := 3) (N := some 33) (v := ?_) (a' := ?_) (tf 11 127) rfl rfl (by kernel_rfl) (fun _ _ _ h => h) (Or.inl ⟨by rfl, ?_⟩) hHeld ?_ ?_; rotate_left; (· rintro w' ⟨s0, s1, s2, s3⟩; go_simp; (with_reducible rfl)); rotate_left; (· simp only [pn_]; rfl); refine take_ (i := 7) (N := some 37) (v := ?_) (a' := ?_) (tf 11 255) rfl rfl (by kernel_rfl) (fun _ _ _ h => h) (Or.inl ⟨by rfl, ?_⟩) hHeld ?_ ?_; rotate_left; (· rintro w' ⟨s0, s1, s2, s3⟩; go_simp; (with_reducible rfl)); rotate_left; (· simp only [pn_]; rfl); refine one_ (i := 8) (N := some 38) (tf 11 511) rfl rfl (by kernel_rfl) (by decide) (fun K hK => ?_); refine goes_ Tryz.func88 (by kernel_rfl) rfl #[.agg #[.int .i64 (M : Int), .slice (some ⟨g, 0, none⟩) n c]] (by rfl) rfl rfl (by simp only [List.map_toArray, List.map_cons, List.map_nil]; rfl) ?_; (with_reducible refine ((HE.out _ hHeld.2.2.2)).mono ?_); rintro e wy ⟨A, c', m', l, rfl, hl, hm', oy, fy, by_⟩; refine ⟨_, rfl, ?_⟩
  have bsy : BSA wy A c' l := by
    obtain ⟨A', c'', e', b'⟩ := oy.bs
    rw [hl] at e'
    cases e'
    exact b'
  refine hK.out _ _ ⟨(below_cell by_ hHeld.1), (below_cell by_ hHeld.2.1), (below_cell by_ hHeld.2.2.1), (below_then hHeld.2.2.2 by_)⟩ (fun hHeld => ?_); clear hK K; refine norm_ (a' := ?_) ?_ ?_; rotate_left; (· show Act.put _ (some 38) _ = _; simp only [pn_]; rfl); refine last_ (i := 9) (N := some 39) (tf 11 1023) rfl rfl (by kernel_rfl) (by decide) (fun K hK => ?_); refine goes_ Tryz.func87 (by kernel_rfl) rfl #[.pointer (some ⟨lg, 0, none⟩), .slice A m' c'] (by rfl) rfl rfl (by simp only [List.map_toArray, List.map_cons, List.map_nil]; rfl) ?_; (with_reducible refine ((HA.out _ hHeld.2.2.2 A c' m' l hl bsy hm')).mono ?_); rintro e wz ⟨rfl, r1, lz, rz, kz⟩; refine ⟨_, rfl, ?_⟩; have bY := hHeld.2.2.2; refine hK.out _ _ ?_; clear hK K; refine norm_ (a' := ?_) ?_ ?_; rotate_left; (· show Act.put _ (some 39) _ = _; simp only [pn_]; rfl); refine pure_ (i := 10) (N := some 40) (v := ?_) (a' := ?_) (tf 11 2047) rfl rfl (by kernel_rfl) (fun _ _ _ h => h) (Or.inl ⟨by rfl, ?_⟩) ?_ ?_; rotate_left; (· intro w'; go_simp; (with_reducible rfl)); rotate_left; (· simp only [pn_]; rfl); refine done_ (by kernel_rfl) ?_
  have kt : KB (b :: lg :: r.toList) [75, 101] [] r.toList w1 wz := (KB.of_below bY).trans kz
  have h3 := kt.1.cells (ts := [75, 101]) G1.out.1 (by decide)
  have k3 : KB ([P, b, lg] ++ r.toList) [113, 75, 101] [] r.toList w wz := (G1.out.2.1.mono (bs' := [P, b, lg] ++ r.toList) (ts' := [113, 75, 101]) (ms' := []) (rs' := r.toList) (by simp) (by simp) (by simp) (by simp)).then kt (by intro x hx _; simp at hx ⊢; rcases hx with h | h | h <;> simp [h]) (by simp) (by simp) (fun _ q _ => q)
  have FF := hid (And.intro h3 (And.intro lz (And.intro (fun k hk => (rz k hk).imp id (fun q => Nat.le_trans (Nat.le_trans G1.out.2.1.1.size bY.size) q)) k3)))
  clear kt h3 k3 lz rz kz bY by_ bsy oy fy c1 c7 c8
  go_wp2
  go_ret
  exact ⟨rfl, r1, FF.out⟩
set_option maxHeartbeats 1600000 in
theorem gstep3_k {b m : Nat} {r : Option Nat} (h : w.heap[P]? = some (.cells (grpC L lg Q 3 tk td N wv) 113 (0, 0))) (hl : LogK w b lg r m) :
    Calls Tryz.prog 45 #[.pointer (some ⟨P, 0, none⟩)] w fun e w' => e = .returned (.slice none 0 0) ∧ ∃ r1, w'.heap[P]? = some (.cells (grpC L lg Q 4 tk td N wv) 113 (0, 0)) ∧ LogK w' b lg r1 m ∧ (∀ k, r1 = some k → r = some k ∨ w.heap.size ≤ k) ∧ KB ([P, b, lg] ++ r.toList) [113, 75, 101] [] r.toList w w' := by
  obtain ⟨w1, hw1⟩ : ∃ y, y = w.setCell ⟨P, 3, none⟩ (.int .u8 4) := ⟨_, rfl⟩
  have h1 : w1.heap[P]? = some (.cells (grpC L lg Q 4 tk td N wv) 113 (0, 0)) := by rw [hw1]; exact (heap_set h).trans rfl
  have k1 : KB [P] [113] [] [] w w1 := by rw [hw1]; exact (KB.refl _ _ _ _ _).set (p := ⟨P, 3, none⟩) h (by simp) (by simp) _
  have hl1 := hl.keeps k1.1 (by decide) (fun _ _ q => by cases q)
  have H1 := hid (gphase_k h)
  have s3 := free_at h 3
  have d3 := cell_at h (i := 3) (v := .int .u8 3) rfl
  have c1 := cell_at h1 (i := 1) (v := .pointer (some ⟨lg, 0, none⟩)) rfl
  have HS := hid (wsync_k hl1)
  have G1 := hid (And.intro h1 (And.intro k1 hw1))
  clear h hl hl1 h1 k1 hw1
  go_enter Tryz.func45, Tryz.ntmps45
  go_wp2_with fail
  refine H1.out.mono ?_
  rintro e _ ⟨rfl, rfl⟩
  go_upto_region 13 with fail
  rw [← G1.out.2.2]
  go_wp2_with fail
  refine HS.out.mono ?_
  rintro e wz ⟨rfl, r1, lz, rz, kt⟩
  have h3 := kt.1.cells (ts := [75, 101]) G1.out.1 (by decide)
  have k3 : KB ([P, b, lg] ++ r.toList) [113, 75, 101] [] r.toList w wz := (G1.out.2.1.mono (bs' := [P, b, lg] ++ r.toList) (ts' := [113, 75, 101]) (ms' := []) (rs' := r.toList) (by simp) (by simp) (by simp) (by simp)).then kt (by intro x hx _; simp at hx ⊢; rcases hx with h | h | h <;> simp [h]) (by simp) (by simp) (fun _ q _ => q)
  have FF := hid (And.intro h3 (And.intro lz (And.intro (fun k hk => (rz k hk).imp id (fun q => Nat.le_trans G1.out.2.1.1.size q)) k3)))
  clear kt h3 k3 lz rz c1
  go_wp2
  go_ret
  exact ⟨rfl, r1, FF.out⟩
end
def WokeK (w w' : World) (P L lg Q I o c J o2 c2 n : Nat) (id ph N : Int) (wv : Value) (g : Nat) : Prop := ∃ A B : Option Addr, w'.heap[g]? = some (.cells #[.int .i64 id, .int .i64 0] 122 (0, 0)) ∧ w'.heap[P]? = some (.cells (grpC L lg Q ph (.slice A n (c - 1)) (.slice B n (c2 - 1)) N wv) 113 (0, 0)) ∧ (0 < n → A = some ⟨I, o + 1, none⟩ ∧ B = some ⟨J, o2 + 1, none⟩) ∧ KB [P] [113] [] [] w w'
section
variable {w : World} {P L lg Q : Nat} {ph N : Int} {tk td wv : Value}
set_option maxRecDepth 100000 in
set_option maxHeartbeats 3200000 in
theorem gstep4_k {bs : List Nat} {ts : List TypeId} {ms rs : List Nat} {PP : World → Prop} (h : w.heap[P]? = some (.cells (grpC L lg Q 4 tk td N wv) 113 (0, 0)))
    (HP : ∀ w1, Below w.heap.size w w1 → Calls Tryz.prog 37 #[.pointer (some ⟨L, 0, none⟩), .agg #[.int .i64 N, wv], tk] w1 fun e w' => e = .returned (.int .i64 0) ∧ PP w' ∧ KB bs ts ms rs w1 w') (ht : 113 ∉ ts) :
    Calls Tryz.prog 45 #[.pointer (some ⟨P, 0, none⟩)] w fun e w' => e = .returned (.slice none 0 0) ∧ ∃ w1, PP w1 ∧ KB bs ts ms rs w w1 ∧ KB [P] [113] [] [] w1 w' ∧ w'.heap[P]? = some (.cells (grpC L lg Q 5 tk td N wv) 113 (0, 0)) := by
  have H1 := hid (gphase_k h)
  have c0 := cell_at h (i := 0) (v := .pointer (some ⟨L, 0, none⟩)) rfl
  have c5 := cell_at h (i := 5) (v := tk) rfl
  have c7 := cell_at h (i := 7) (v := .int .i64 N) rfl
  have c8 := cell_at h (i := 8) (v := wv) rfl
  have H2 := hid HP
  have G0 := hid h
  clear h HP
  go_enter Tryz.func45, Tryz.ntmps45
  go_wp2_with fail
  refine H1.out.mono ?_
  rintro e _ ⟨rfl, rfl⟩
  go_upto_region 16 with fail
  refine start_ (n := 13) (S := fun w' => w'.cell? ⟨P, 0, none⟩ = some (.pointer (some ⟨L, 0, none⟩)) ∧ w'.cell? ⟨P, 5, none⟩ = some tk ∧ w'.cell? ⟨P, 7, none⟩ = some (.int .i64 N) ∧ w'.cell? ⟨P, 8, none⟩ = some wv ∧ Below w.heap.size w w') (ds := [12]) (tf 13 0) (by kernel_rfl) rfl rfl ⟨c0, c5, c7, c8, (Below.refl w.heap.size w).drew⟩ (fun hHeld => ?_); refine pure_ (i := 0) (N := some 58) (v := ?_) (a' := ?_) (tf 13 1) rfl rfl (by kernel_rfl) (fun _ _ _ h => h) (Or.inl ⟨by rfl, ?_⟩) ?_ ?_; rotate_left; (· intro w'; go_simp; (with_reducible rfl)); rotate_left; (· simp only [pn_]; rfl); refine pure_ (i := 1) (N := some 59) (v := ?_) (a' := ?_) (tf 13 3) rfl rfl (by kernel_rfl) (fun _ _ _ h => h) (Or.inl ⟨by rfl, ?_⟩) ?_ ?_; rotate_left; (· intro w'; go_simp; (with_reducible rfl)); rotate_left; (· simp only [pn_]; rfl); refine pure_ (i := 2) (N := some 60) (v := ?_) (a' := ?_) (tf 13 7) rfl rfl (by kernel_rfl) (fun _ _ _ h => h) (Or.inl ⟨by rfl, ?_⟩) ?_ ?_; rotate_left; (· intro w'; go_simp; (with_reducible rfl)); rotate_left; (· simp only [pn_]; rfl); refine pure_ (i := 4) (N := some 62) (v := ?_) (a' := ?_) (tf 13 23) rfl rfl (by kernel_rfl) (fun _ _ _ h => h) (Or.inl ⟨by rfl, ?_⟩) ?_ ?_; rotate_left; (· intro w'; go_simp; (with_reducible rfl)); rotate_left; (· simp only [pn_]; rfl); refine pure_ (i := 5) (N := some 63) (v := ?_) (a' := ?_) (tf 13 55) rfl rfl (by kernel_rfl) (fun _ _ _ h => h) (Or.inl ⟨by rfl, ?_⟩) ?_ ?_; rotate_left; (· intro w'; go_simp; (with_reducible rfl)); rotate_left; (· simp only [pn_]; rfl); refine pure_ (i := 6) (N := some 64) (v := ?_) (a' := ?_) (tf 13 119) rfl rfl (by kernel_rfl) (fun _ _ _ h => h) (Or.inl ⟨by rfl, ?_⟩) ?_ ?_; rotate_left; (· intro w'; go_simp; (with_reducible rfl)); rotate_left; (· simp only [pn_]; rfl); refine pure_ (i := 8) (N := some 66) (v := ?_) (a' := ?_) (tf 13 375) rfl rfl (by kernel_rfl) (fun _ _ _ h => h) (Or.inl ⟨by rfl, ?_⟩) ?_ ?_; rotate_left; (· intro w'; go_simp; (with_reducible rfl)); rotate_left; (· simp only [pn_]; rfl); refine pure_ (i := 9) (N := some 67) (v := ?_) (a' := ?_) (tf 13 887) rfl rfl (by kernel_rfl) (fun _ _ _ h => h) (Or.inl ⟨by rfl, ?_⟩) ?_ ?_; rotate_left; (· intro w'; go_simp; (with_reducible rfl)); rotate_left; (· simp only [pn_]; rfl); refine pure_ (i := 10) (N := some 68) (v := ?_) (a' := ?_) (tf 13 1911) rfl rfl (by kernel_rfl) (fun _ _ _ h => h) (Or.inl ⟨by rfl, ?_⟩) ?_ ?_; rotate_left; (· intro w'; go_simp; (with_reducible rfl)); rotate_left; (· simp only [pn_]; rfl); refine take_ (i := 3) (N := some 61) (v := ?_) (a' := ?_) (tf 13 1919) rfl rfl (by kernel_rfl) (fun _ _ _ h => h) (Or.inl ⟨by rfl, ?_⟩) hHeld ?_ ?_; rotate_left; (· rintro w' ⟨s0, s1, s2, s3, s4⟩; go_simp; (with_reducible rfl)); rotate_left; (· simp only [pn_]; rfl); refine take_ (i := 7) (N := some 65) (v := ?_) (a' := ?_) (tf 13 2047) rfl rfl (by kernel_rfl) (fun _ _ _ h => h) (Or.inl ⟨by rfl, ?_⟩) hHeld ?_ ?_; rotate_left; (· rintro w' ⟨s0, s1, s2, s3, s4⟩; go_simp; (with_reducible rfl)); rotate_left; (· simp only [pn_]; rfl); refine take_ (i := 11) (N := some 69) (v := ?_) (a' := ?_) (tf 13 4095) rfl rfl (by kernel_rfl) (fun _ _ _ h => h) (Or.inl ⟨by rfl, ?_⟩) hHeld ?_ ?_; rotate_left; (· rintro w' ⟨s0, s1, s2, s3, s4⟩; go_simp; (with_reducible rfl)); rotate_left; (· simp only [pn_]; rfl); refine last_ (i := 12) (N := some 70) (tf 13 8191) rfl rfl (by kernel_rfl) (by decide) (fun K hK => ?_); refine goes_ Tryz.func37 (by kernel_rfl) rfl #[.pointer (some ⟨L, 0, none⟩), .agg #[.int .i64 N, wv], tk] (by rfl) rfl rfl (by simp only [List.map_toArray, List.map_cons, List.map_nil]; rfl) ?_; (with_reducible refine ((H2.out _ hHeld.2.2.2.2)).mono ?_); rintro e w1 ⟨rfl, pp, kp⟩; refine ⟨_, rfl, ?_⟩; have bY := hHeld.2.2.2.2; refine hK.out _ _ ?_; clear hK K; refine norm_ (a' := ?_) ?_ ?_; rotate_left; (· show Act.put _ (some 70) _ = _; simp only [pn_]; rfl); refine done_ (by kernel_rfl) ?_
  have k1 : KB bs ts ms rs w w1 := (KB.of_below bY).trans kp
  have h1 := k1.1.cells G0.out ⟨ht, by decide⟩
  have s3 := free_at h1 3
  have d3 := cell_at h1 (i := 3) (v := .int .u8 4) rfl
  have FF := hid (And.intro pp (And.intro k1 h1))
  clear pp k1 h1 bY kp c0 c5 c7 c8
  go_wp2
  go_ret
  exact ⟨rfl, w1, FF.out.1, FF.out.2.1, (KB.refl _ _ _ _ _).set (p := ⟨P, 3, none⟩) FF.out.2.2 (by simp) (by simp) _, (heap_set FF.out.2.2).trans rfl⟩
set_option maxRecDepth 100000 in
set_option maxHeartbeats 3200000 in
theorem gwake_k {I o c J o2 c2 n : Nat} {id : Int} (hn : n + 1 ≤ c ∧ n + 1 ≤ c2 ∧ c ≤ 9223372036854775807 ∧ c2 ≤ 9223372036854775807) (h : w.heap[P]? = some (.cells (grpC L lg Q 5 (.slice (some ⟨I, o, none⟩) (n + 1) c) (.slice (some ⟨J, o2, none⟩) (n + 1) c2) N wv) 113 (0, 0)))
    (hI : w.cell? ⟨I, o, none⟩ = some (.int .i64 id)) (hJ : w.cell? ⟨J, o2, none⟩ = some (.int .i64 0)) (ph : Int) (hph : ph = if n = 0 then 0 else 5) :
    Calls Tryz.prog 91 #[.pointer (some ⟨P, 0, none⟩)] w fun e w' => ∃ g, e = .returned (.slice (some ⟨g, 0, none⟩) 1 1) ∧ WokeK w w' P L lg Q I o c J o2 c2 n id ph N wv g := by
  obtain ⟨Z, hZ⟩ : ∃ x, x = w.heap.size := ⟨_, rfl⟩
  have c5 := cell_at h (i := 5) (v := .slice (some ⟨I, o, none⟩) (n + 1) c) rfl
  have c6 := cell_at h (i := 6) (v := .slice (some ⟨J, o2, none⟩) (n + 1) c2) rfl
  have G0 := hid h
  clear h
  go_enter Tryz.func91, Tryz.ntmps91
  go_upto_region 1 with fail
  have A0 : Below w.heap.size w (w.alloc (.cells #[.int .i64 id, .int .i64 0] 122)) := below_alloc (Below.refl _ _) _
  refine start_ (n := 15) (S := fun w' => w'.cell? ⟨P, 5, none⟩ = some (.slice (some ⟨I, o, none⟩) (n + 1) c) ∧ w'.cell? ⟨P, 6, none⟩ = some (.slice (some ⟨J, o2, none⟩) (n + 1) c2) ∧ w'.cell? ⟨I, o, none⟩ = some (.int .i64 id) ∧ w'.cell? ⟨J, o2, none⟩ = some (.int .i64 0)) (ds := [14]) (tf 15 0) (by kernel_rfl) rfl rfl ⟨c5, c6, hI, hJ⟩ (fun hHeld => ?_); refine pure_ (i := 0) (N := some 4) (v := ?_) (a' := ?_) (tf 15 1) rfl rfl (by kernel_rfl) (fun _ _ _ h => h) (Or.inl ⟨by rfl, ?_⟩) ?_ ?_; rotate_left; (· intro w'; go_simp; (with_reducible rfl)); rotate_left; (· simp only [pn_]; rfl); refine pure_ (i := 1) (N := some 5) (v := ?_) (a' := ?_) (tf 15 3) rfl rfl (by kernel_rfl) (fun _ _ _ h => h) (Or.inl ⟨by rfl, ?_⟩) ?_ ?_; rotate_left; (· intro w'; go_simp; (with_reducible rfl)); rotate_left; (· simp only [pn_]; rfl); refine pure_ (i := 2) (N := some 6) (v := ?_) (a' := ?_) (tf 15 7) rfl rfl (by kernel_rfl) (fun _ _ _ h => h) (Or.inl ⟨by rfl, ?_⟩) ?_ ?_; rotate_left; (· intro w'; go_simp; (with_reducible rfl)); rotate_left; (· simp only [pn_]; rfl); refine pure_ (i := 6) (N := some 10) (v := ?_) (a' := ?_) (tf 15 71) rfl rfl (by kernel_rfl) (fun _ _ _ h => h) (Or.inl ⟨by rfl, ?_⟩) ?_ ?_; rotate_left; (· intro w'; go_simp; (with_reducible rfl)); rotate_left; (· simp only [pn_]; rfl); refine pure_ (i := 7) (N := some 11) (v := ?_) (a' := ?_) (tf 15 199) rfl rfl (by kernel_rfl) (fun _ _ _ h => h) (Or.inl ⟨by rfl, ?_⟩) ?_ ?_; rotate_left; (· intro w'; go_simp; (with_reducible rfl)); rotate_left; (· simp only [pn_]; rfl); refine pure_ (i := 8) (N := some 12) (v := ?_) (a' := ?_) (tf 15 455) rfl rfl (by kernel_rfl) (fun _ _ _ h => h) (Or.inl ⟨by rfl, ?_⟩) ?_ ?_; rotate_left; (· intro w'; go_simp; (with_reducible rfl)); rotate_left; (· simp only [pn_]; rfl); refine take_ (i := 3) (N := some 7) (v := ?_) (a' := ?_) (tf 15 463) rfl rfl (by kernel_rfl) (fun _ _ _ h => h) (Or.inl ⟨by rfl, ?_⟩) hHeld ?_ ?_; rotate_left; (· rintro w' ⟨s0, s1, s2, s3⟩; go_simp; (with_reducible rfl)); rotate_left; (· simp only [pn_]; rfl); refine pure_ (i := 4) (N := some 8) (v := ?_) (a' := ?_) (tf 15 479) rfl rfl (by kernel_rfl) (fun _ _ _ h => h) (Or.inl ⟨by rfl, ?_⟩) ?_ ?_; rotate_left; (· intro w'; go_simp; (with_reducible rfl)); rotate_left; (· simp only [pn_]; rfl); refine take_ (i := 5) (N := some 9) (v := ?_) (a' := ?_) (tf 15 511) rfl rfl (by kernel_rfl) (fun _ _ _ h => h) (Or.inl ⟨by rfl, ?_⟩) hHeld ?_ ?_; rotate_left; (· rintro w' ⟨s0, s1, s2, s3⟩; go_simp; (with_reducible rfl)); rotate_left; (· simp only [pn_]; rfl); refine take_ (i := 9) (N := some 13) (v := ?_) (a' := ?_) (tf 15 1023) rfl rfl (by kernel_rfl) (fun _ _ _ h => h) (Or.inl ⟨by rfl, ?_⟩) hHeld ?_ ?_; rotate_left; (· rintro w' ⟨s0, s1, s2, s3⟩; go_simp; (with_reducible rfl)); rotate_left; (· simp only [pn_]; rfl); refine pure_ (i := 10) (N := some 14) (v := ?_) (a' := ?_) (tf 15 2047) rfl rfl (by kernel_rfl) (fun _ _ _ h => h) (Or.inl ⟨by rfl, ?_⟩) ?_ ?_; rotate_left; (· intro w'; go_simp; (with_reducible rfl)); rotate_left; (· simp only [pn_]; rfl); refine take_ (i := 11) (N := some 15) (v := ?_) (a' := ?_) (tf 15 4095) rfl rfl (by kernel_rfl) (fun _ _ _ h => h) (Or.inl ⟨by rfl, ?_⟩) hHeld ?_ ?_; rotate_left; (· rintro w' ⟨s0, s1, s2, s3⟩; go_simp; (with_reducible rfl)); rotate_left; (· simp only [pn_]; rfl); refine pure_ (i := 12) (N := some 16) (v := ?_) (a' := ?_) (tf 15 8191) rfl rfl (by kernel_rfl) (fun _ _ _ h => h) (Or.inl ⟨by rfl, ?_⟩) ?_ ?_; rotate_left; (· intro w'; go_simp; (with_reducible rfl)); rotate_left; (· simp only [pn_]; rfl); refine one_ (i := 13) (N := some 3) (tf 15 16383) rfl rfl (by kernel_rfl) (by decide) (fun K hK => ?_); refine value_ (w1 := ?_) (v := ?_) (by rfl) rfl ?_ ?_; rotate_left 2; (· go_simp; constructor; (· rfl); (· rfl)); refine hK.out _ _ ⟨below_cell (below_alloc (Below.refl _ _) (.cells #[.int .i64 0, .int .i64 0] 122)) hHeld.1, below_cell (below_alloc (Below.refl _ _) (.cells #[.int .i64 0, .int .i64 0] 122)) hHeld.2.1, below_cell (below_alloc (Below.refl _ _) (.cells #[.int .i64 0, .int .i64 0] 122)) hHeld.2.2.1, below_cell (below_alloc (Below.refl _ _) (.cells #[.int .i64 0, .int .i64 0] 122)) hHeld.2.2.2⟩ (fun hHeld => ?_); clear hK K; refine norm_ (a' := ?_) ?_ ?_; rotate_left; (· show Act.put _ (some 3) _ = _; simp only [pn_]; rfl); refine last_ (i := 14) (N := none) (tf 15 32767) rfl rfl (by kernel_rfl) (by decide) (fun K hK => ?_); refine skip_ (w1 := ?_) (by rfl) rfl ?_ ?_; rotate_left; (· go_simp; rfl); refine hK.out _ _ ?_; clear hK K; refine done_ (by kernel_rfl) ?_
  obtain ⟨w1, hw1⟩ : ∃ y, y = (w.alloc (.cells #[.int .i64 id, .int .i64 0] 122)).drew := ⟨_, rfl⟩
  have b1 : Below w.heap.size w w1 := by rw [hw1]; exact A0.drew
  have gD : w1.heap[Z]? = some (.cells #[.int .i64 id, .int .i64 0] 122 (0, 0)) := by rw [hw1, hZ]; exact heap_alloc_new _ _
  rw [← hw1, ← hZ]
  have h1 := below_heap b1 G0.out
  have d5 := cell_at h1 (i := 5) (v := .slice (some ⟨I, o, none⟩) (n + 1) c) rfl
  have d6 := cell_at h1 (i := 6) (v := .slice (some ⟨J, o2, none⟩) (n + 1) c2) rfl
  have f5 := free_at h1 5
  have f6 := free_at h1 6
  have G1 := hid (And.intro b1 (And.intro gD (And.intro h1 hZ)))
  clear hw1 b1 gD h1 hZ c5 c6 hI hJ A0
  obtain ⟨q1, q2, q3, q4⟩ := hn
  have ql : ((1 : Int) ≤ (n : Int) + 1) = True := by simp; omega
  obtain ⟨A, nA⟩ : ∃ A : Option Addr, (if c = 1 then some ⟨I, o, none⟩ else some ⟨I, o + 1, none⟩) = A := ⟨_, rfl⟩
  obtain ⟨B, nB⟩ : ∃ B : Option Addr, (if c2 = 1 then some ⟨J, o2, none⟩ else some ⟨J, o2 + 1, none⟩) = B := ⟨_, rfl⟩
  have AB := hid (show 0 < n → A = some ⟨I, o + 1, none⟩ ∧ B = some ⟨J, o2 + 1, none⟩ from fun h => ⟨by rw [← nA, if_neg (by omega)], by rw [← nB, if_neg (by omega)]⟩)
  go_upto_region 2 with fail
  refine start_ (n := 18) (S := fun w' => w'.cell? ⟨P, 5, none⟩ = some (.slice (some ⟨I, o, none⟩) (n + 1) c) ∧ w'.cell? ⟨P, 6, none⟩ = some (.slice (some ⟨J, o2, none⟩) (n + 1) c2)) (ds := [14, 17]) (tf 18 0) (by kernel_rfl) rfl rfl ⟨d5, d6⟩ (fun hHeld => ?_); refine pure_ (i := 0) (N := some 17) (v := ?_) (a' := ?_) (tf 18 1) rfl rfl (by kernel_rfl) (fun _ _ _ h => h) (Or.inl ⟨by rfl, ?_⟩) ?_ ?_; rotate_left; (· intro w'; go_simp; (with_reducible rfl)); rotate_left; (· simp only [pn_, nA, nB]; rfl); refine pure_ (i := 1) (N := some 18) (v := ?_) (a' := ?_) (tf 18 3) rfl rfl (by kernel_rfl) (fun _ _ _ h => h) (Or.inl ⟨by rfl, ?_⟩) ?_ ?_; rotate_left; (· intro w'; go_simp; (with_reducible rfl)); rotate_left; (· simp only [pn_, nA, nB]; rfl); refine pure_ (i := 2) (N := some 19) (v := ?_) (a' := ?_) (tf 18 7) rfl rfl (by kernel_rfl) (fun _ _ _ h => h) (Or.inl ⟨by rfl, ?_⟩) ?_ ?_; rotate_left; (· intro w'; go_simp; (with_reducible rfl)); rotate_left; (· simp only [pn_, nA, nB]; rfl); refine pure_ (i := 3) (N := some 20) (v := ?_) (a' := ?_) (tf 18 15) rfl rfl (by kernel_rfl) (fun _ _ _ h => h) (Or.inl ⟨by rfl, ?_⟩) ?_ ?_; rotate_left; (· intro w'; go_simp; (with_reducible rfl)); rotate_left; (· simp only [pn_, nA, nB]; rfl); refine pure_ (i := 4) (N := some 21) (v := ?_) (a' := ?_) (tf 18 31) rfl rfl (by kernel_rfl) (fun _ _ _ h => h) (Or.inl ⟨by rfl, ?_⟩) ?_ ?_; rotate_left; (· intro w'; go_simp; (with_reducible rfl)); rotate_left; (· simp only [pn_, nA, nB]; rfl); refine pure_ (i := 7) (N := some 24) (v := ?_) (a' := ?_) (tf 18 159) rfl rfl (by kernel_rfl) (fun _ _ _ h => h) (Or.inl ⟨by rfl, ?_⟩) ?_ ?_; rotate_left; (· intro w'; go_simp; (with_reducible rfl)); rotate_left; (· simp only [pn_, nA, nB]; rfl); refine pure_ (i := 8) (N := some 25) (v := ?_) (a' := ?_) (tf 18 415) rfl rfl (by kernel_rfl) (fun _ _ _ h => h) (Or.inl ⟨by rfl, ?_⟩) ?_ ?_; rotate_left; (· intro w'; go_simp; (with_reducible rfl)); rotate_left; (· simp only [pn_, nA, nB]; rfl); refine pure_ (i := 9) (N := some 26) (v := ?_) (a' := ?_) (tf 18 927) rfl rfl (by kernel_rfl) (fun _ _ _ h => h) (Or.inl ⟨by rfl, ?_⟩) ?_ ?_; rotate_left; (· intro w'; go_simp; (with_reducible rfl)); rotate_left; (· simp only [pn_, nA, nB]; rfl); refine take_ (i := 5) (N := some 22) (v := ?_) (a' := ?_) (tf 18 959) rfl rfl (by kernel_rfl) (fun _ _ _ h => h) (Or.inl ⟨by rfl, ?_⟩) hHeld ?_ ?_; rotate_left; (· rintro w' ⟨s0, s1⟩; go_simp; (with_reducible rfl)); rotate_left; (· simp only [pn_, nA, nB]; rfl); refine pure_ (i := 6) (N := some 23) (v := ?_) (a' := ?_) (tf 18 1023) rfl rfl (by kernel_rfl) (fun _ _ _ h => h) (Or.inl ⟨by rfl, ?_⟩) ?_ ?_; rotate_left; (· intro w'; go_simp; (with_reducible rfl)); rotate_left; (· simp only [pn_, nA, nB]; rfl); refine take_ (i := 10) (N := some 27) (v := ?_) (a' := ?_) (tf 18 2047) rfl rfl (by kernel_rfl) (fun _ _ _ h => h) (Or.inl ⟨by rfl, ?_⟩) hHeld ?_ ?_; rotate_left; (· rintro w' ⟨s0, s1⟩; go_simp; (with_reducible rfl)); rotate_left; (· simp only [pn_, nA, nB]; rfl); refine pure_ (i := 11) (N := some 28) (v := ?_) (a' := ?_) (tf 18 4095) rfl rfl (by kernel_rfl) (fun _ _ _ h => h) (Or.inl ⟨by rfl, ?_⟩) ?_ ?_; rotate_left; (· intro w'; go_simp; (with_reducible rfl)); rotate_left; (· simp only [pn_, nA, nB]; rfl); refine pure_ (i := 12) (N := some 29) (v := ?_) (a' := ?_) (tf 18 8191) rfl rfl (by kernel_rfl) (fun _ _ _ h => h) (Or.inl ⟨by rfl, ?_⟩) ?_ ?_; rotate_left; (· intro w'; go_simp; (with_reducible rfl)); rotate_left; (· simp only [pn_, nA, nB]; rfl); refine pure_ (i := 13) (N := some 30) (v := ?_) (a' := ?_) (tf 18 16383) rfl rfl (by kernel_rfl) (fun _ _ _ h => h) (Or.inl ⟨by rfl, ?_⟩) ?_ ?_; rotate_left; (· intro w'; go_simp; (with_reducible rfl)); rotate_left; (· simp only [pn_, nA, nB]; rfl); refine last_ (i := 14) (N := none) (tf 18 32767) rfl rfl (by kernel_rfl) (by decide) (fun K hK => ?_); refine skip_ (w1 := ?_) (by rfl) rfl ?_ ?_; rotate_left; (· go_simp; rfl); refine hK.out _ _ ?_; clear hK K; refine pure_ (i := 15) (N := some 31) (v := ?_) (a' := ?_) (tf 18 65535) rfl rfl (by kernel_rfl) (fun _ _ _ h => h) (Or.inl ⟨by rfl, ?_⟩) ?_ ?_; rotate_left; (· intro w'; go_simp; (with_reducible rfl)); rotate_left; (· simp only [pn_, nA, nB]; rfl); refine pure_ (i := 16) (N := some 32) (v := ?_) (a' := ?_) (tf 18 131071) rfl rfl (by kernel_rfl) (fun _ _ _ h => h) (Or.inl ⟨by rfl, ?_⟩) ?_ ?_; rotate_left; (· intro w'; go_simp; (with_reducible rfl)); rotate_left; (· simp only [pn_, nA, nB]; rfl); refine last_ (i := 17) (N := none) (tf 18 262143) rfl rfl (by kernel_rfl) (by decide) (fun K hK => ?_); refine skip_ (w1 := ?_) (by rfl) rfl ?_ ?_; rotate_left; (· go_simp; rfl); refine hK.out _ _ ?_; clear hK K; refine done_ (by kernel_rfl) ?_
  obtain ⟨w2, hw2⟩ : ∃ y, y = ((w1.setCell ⟨P, 5, none⟩ (.slice A n (c - 1))).setCell ⟨P, 6, none⟩ (.slice B n (c2 - 1))).drew := ⟨_, rfl⟩
  obtain ⟨b1, gD, h1, hZ⟩ := G1.out
  have g5 := heap_set (i := 5) (v := .slice A n (c - 1)) h1
  have h2 : w2.heap[P]? = some (.cells (grpC L lg Q 5 (.slice A n (c - 1)) (.slice B n (c2 - 1)) N wv) 113 (0, 0)) := by rw [hw2]; exact (heap_set g5).trans rfl
  have k2 : KB [P] [113] [] [] w w2 := by rw [hw2]; exact (((KB.of_below b1).set (p := ⟨P, 5, none⟩) G0.out (by simp) (by simp) _).set (p := ⟨P, 6, none⟩) G0.out (by simp) (by simp) _).drew
  have kd : KT [113] [] [] w1 w2 := by rw [hw2]; exact (((KT.refl _ _ _ _).set (p := ⟨P, 5, none⟩) h1 (by simp) _).set (p := ⟨P, 6, none⟩) h1 (by simp) _).drew
  have gD2 := kd.cells gD (by decide)
  rw [← hw2]
  have z0 := cell_at gD2 (i := 0) (v := .int .i64 id) rfl
  have z1 := cell_at gD2 (i := 1) (v := .int .i64 0) rfl
  have e5 := cell_at h2 (i := 5) (v := .slice A n (c - 1)) rfl
  have e3 := cell_at h2 (i := 3) (v := .int .u8 5) rfl
  have f3 := free_at h2 3
  have G2 := hid (And.intro h2 (And.intro k2 (And.intro gD2 hph)))
  clear h1 gD b1 hZ g5 h2 k2 kd gD2 hw2 d5 d6 f5 f6 nA nB ql q1 q2 q3 q4 hph
  by_cases h0 : n = 0
  · subst h0
    have g3 := heap_set (i := 3) (v := .int .u8 0) G2.out.1
    have kd : KT [113] [] [] w2 (w2.setCell ⟨P, 3, none⟩ (.int .u8 0)) := (KT.refl _ _ _ _).set (p := ⟨P, 3, none⟩) G2.out.1 (by simp) _
    have gD2 := kd.cells G2.out.2.2.1 (by decide)
    obtain ⟨w3, hw3⟩ : ∃ y, y = w2.setCell ⟨P, 3, none⟩ (.int .u8 0) := ⟨_, rfl⟩
    have k3 : KB [P] [113] [] [] w w3 := by rw [hw3]; exact G2.out.2.1.set (p := ⟨P, 3, none⟩) G0.out (by simp) (by simp) _
    rw [← hw3] at g3 gD2
    have z0' := cell_at gD2 (i := 0) (v := .int .i64 id) rfl
    have z1' := cell_at gD2 (i := 1) (v := .int .i64 0) rfl
    have HW := hid hw3
    have G3 := hid (And.intro g3 (And.intro k3 gD2))
    clear g3 k3 gD2 kd hw3
    go_upto_region 5 with fail
    rw [← HW.out]
    go_wp2
    go_ret
    refine ⟨w3.heap.size, rfl, A, B, heap_alloc_new _ _, ?_, fun h => absurd h (by omega), G3.out.2.1.alloc _⟩
    rw [below_heap (below_alloc (Below.refl _ w3) _) G3.out.1, G2.out.2.2.2]
    rfl
  · have t0 : ((n : Int) == 0) = false := by simp; omega
    clear e3 f3
    go_upto_region 5 with fail
    go_wp2
    go_ret
    refine ⟨w2.heap.size, rfl, A, B, heap_alloc_new _ _, ?_, AB.out, G2.out.2.1.alloc _⟩
    rw [below_heap (below_alloc (Below.refl _ w2) _) G2.out.1, G2.out.2.2.2, if_neg h0]
theorem gstep5_k {I o c J o2 c2 n : Nat} {id : Int} (hn : n + 1 ≤ c ∧ n + 1 ≤ c2 ∧ c ≤ 9223372036854775807 ∧ c2 ≤ 9223372036854775807) (h : w.heap[P]? = some (.cells (grpC L lg Q 5 (.slice (some ⟨I, o, none⟩) (n + 1) c) (.slice (some ⟨J, o2, none⟩) (n + 1) c2) N wv) 113 (0, 0)))
    (hI : w.cell? ⟨I, o, none⟩ = some (.int .i64 id)) (hJ : w.cell? ⟨J, o2, none⟩ = some (.int .i64 0)) (ph : Int) (hph : ph = if n = 0 then 0 else 5) :
    Calls Tryz.prog 45 #[.pointer (some ⟨P, 0, none⟩)] w fun e w' => ∃ g, e = .returned (.slice (some ⟨g, 0, none⟩) 1 1) ∧ WokeK w w' P L lg Q I o c J o2 c2 n id ph N wv g := by
  have H1 := hid (gphase_k h)
  have H2 := hid (gwake_k hn h hI hJ ph hph)
  clear h hI hJ hn hph
  go_enter Tryz.func45, Tryz.ntmps45
  go_wp2_with fail
  refine H1.out.mono ?_
  rintro e _ ⟨rfl, rfl⟩
  go_wp2_with fail
  with_reducible refine H2.out.mono ?_
  rintro e w1 ⟨g, rfl, hp⟩
  have FF := hid hp
  clear hp H1 H2
  go_wp2
  go_ret
  exact ⟨g, rfl, FF.out⟩
end
end Go.Proofs.YtnidgljkbmceaaaGreatDoor
