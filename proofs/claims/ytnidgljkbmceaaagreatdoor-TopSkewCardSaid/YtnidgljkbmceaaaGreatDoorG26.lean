/- TopSkew's walks: the engine's steps. (printed by gen_es.py) -/
import Derived.Test.YtnidgljkbmceaaaGreatDoorPn
import Derived.Test.YtnidgljkbmceaaaGreatDoorG25
set_option linter.unusedVariables false
set_option linter.unusedSimpArgs false
namespace Go.Proofs.YtnidgljkbmceaaaGreatDoor
open Go.RowKit PrintLast Go.Maps Go.MapKept
section
variable {w : World} {E L P lg Q : Nat} {a b : Cli} {hv : Value} {now ph ph' N : Int} {tk td wv : Value} {bs : List Nat} {ts : List TypeId} {ms rs : List Nat} {Z : World → Prop}
set_option maxRecDepth 100000 in
set_option maxHeartbeats 3200000 in
theorem estep_plain (hE : w.heap[E]? = some (.cells (engS L P a b hv now) 64 (0, 0))) (hP : w.heap[P]? = some (.cells (grpC L lg Q ph tk td N wv) 113 (0, 0))) (hnow : 0 ≤ now ∧ now ≤ 1000) (h5 : ph ≠ 5) (h6 : ph' ≠ 5) (ht : 64 ∉ ts)
    (HG : ∀ w1, w1.heap[E]? = some (.cells (engS L P a b hv (now + 1)) 64 (0, 0)) → KB [E] [64] [] [] w w1 → Calls Tryz.prog 45 #[.pointer (some ⟨P, 0, none⟩)] w1 fun e w' => e = .returned (.slice none 0 0) ∧ Z w' ∧ KB bs ts ms rs w1 w')
    (HZ : ∀ w2, Z w2 → ∃ tk td N wv, w2.heap[P]? = some (.cells (grpC L lg Q ph' tk td N wv) 113 (0, 0))) :
    Calls Tryz.prog 22 #[.pointer (some ⟨E, 0, none⟩)] w fun e w' => e = .returned (.tuple #[]) ∧ Z w' ∧ w'.heap[E]? = some (.cells (engS L P a b hv (now + 1)) 64 (0, 0)) ∧ KB (E :: bs) (64 :: ts) ms rs w w' := by
  obtain ⟨m, hm⟩ : ∃ m, m = now + 1 := ⟨_, rfl⟩
  have wm : wrap64 (now + 1) = m := by rw [hm]; unfold wrap64; omega
  rw [← hm] at HG ⊢
  obtain ⟨w1, hw1⟩ : ∃ w1, w1 = w.setCell ⟨E, 75, none⟩ (.int .i64 m) := ⟨_, rfl⟩
  have e1 : w1.heap[E]? = some (.cells (engS L P a b hv m) 64 (0, 0)) := by rw [hw1]; exact (heap_set hE).trans rfl
  have k1 : KB [E] [64] [] [] w w1 := by rw [hw1]; exact (KB.refl _ _ _ _ _).set (p := ⟨E, 75, none⟩) hE (by simp) (by simp) _
  have p1 := k1.1.cells hP (by decide)
  have HPh := hid (gphase_k p1)
  have G := hid (HG w1 e1 k1)
  have c75 := cell_at hE (i := 75) (v := .int .i64 now) rfl
  have f75 := free_at hE 75
  have d1 := cell_at e1 (i := 1) (v := .pointer (some ⟨P, 0, none⟩)) rfl
  have HT := hid ht
  have FX := hid (And.intro e1 k1)
  have HW1 := hid hw1
  have n1 : (ph != 5) = true := by simp [h5]
  have n2 : decide (ph = 5) = false := by simp [h5]
  have n3 : (ph == 5) = false := by simp [h5]
  have n4 : (ph' == 5) = false := by simp [h6]
  have n5 : decide (ph' = 5) = false := by simp [h6]
  have n6 : (ph' != 5) = true := by simp [h6]
  have ZZ := hid HZ
  clear hE hP hnow HG ht e1 k1 p1 hw1 hm h5 h6 HZ
  go_enter Tryz.func22, Tryz.ntmps22
  go_upto_region 2 with fail
  rw [← HW1.out]
  go_wp2_with fail
  refine HPh.out.mono ?_
  rintro e w1' ⟨rfl, rfl⟩
  clear HPh c75 f75
  go_wp2_with fail
  refine G.out.mono ?_
  rintro e w2 ⟨rfl, z2, k2⟩
  have e2 := k2.1.cells FX.out.1 ⟨HT.out, by decide⟩
  have k02 : KB (E :: bs) (64 :: ts) ms rs w w2 := (FX.out.2.mono (by simp) (by simp) (by simp) (by simp)).then k2 (by intro x hx _; simp [hx]) (by intro x hx; simp [hx]) (fun _ q _ => q) (fun _ q _ => q)
  obtain ⟨tk2, td2, N2, wv2, p2⟩ := ZZ.out w2 z2
  have HP2 := hid (gphase_k p2)
  have d2 := cell_at e2 (i := 1) (v := .pointer (some ⟨P, 0, none⟩)) rfl
  have FF := hid (And.intro z2 (And.intro e2 k02))
  clear G d1 z2 e2 k2 k02 p2
  go_wp2
  refine wp_loop_rounds 1 ?_
  rw [rounds_succ]
  go_wp2_with fail
  refine HP2.out.mono ?_
  rintro e w3 ⟨rfl, rfl⟩
  go_wp2
  go_end0
  exact ⟨rfl, FF.out⟩
set_option maxRecDepth 100000 in
set_option maxHeartbeats 3200000 in
theorem estep_wake {id : Int} {Z : Nat → World → Prop} {Z2 : World → Prop} {bs2 : List Nat} {ts2 : List TypeId} {ms2 rs2 : List Nat} (hE : w.heap[E]? = some (.cells (engS L P a b hv now) 64 (0, 0))) (hP : w.heap[P]? = some (.cells (grpC L lg Q 5 tk td N wv) 113 (0, 0))) (hnow : 0 ≤ now ∧ now ≤ 1000) (ht : 64 ∉ ts)
    (HG : ∀ w1, w1.heap[E]? = some (.cells (engS L P a b hv (now + 1)) 64 (0, 0)) → KB [E] [64] [] [] w w1 → Calls Tryz.prog 45 #[.pointer (some ⟨P, 0, none⟩)] w1 fun e w' => ∃ g, e = .returned (.slice (some ⟨g, 0, none⟩) 1 1) ∧ Z g w' ∧ KB bs ts ms rs w1 w')
    (HZ : ∀ g w2, Z g w2 → w2.heap[g]? = some (.cells #[.int .i64 id, .int .i64 0] 122 (0, 0)))
    (HK : ∀ g w2 w3, Z g w2 → Below w2.heap.size w2 w3 → w3.heap[E]? = some (.cells (engS L P a b hv (now + 1)) 64 (0, 0)) → KB (E :: bs) (64 :: ts) ms rs w w3 → Calls Tryz.prog 46 #[.pointer (some ⟨E, 0, none⟩), .agg #[.int .i64 id, .int .i64 0]] w3 fun e w' => e = .returned (.tuple #[]) ∧ Z2 w' ∧ KB bs2 ts2 ms2 rs2 w w') :
    Calls Tryz.prog 22 #[.pointer (some ⟨E, 0, none⟩)] w fun e w' => e = .returned (.tuple #[]) ∧ Z2 w' ∧ KB bs2 ts2 ms2 rs2 w w' := by
  obtain ⟨m, hm⟩ : ∃ m, m = now + 1 := ⟨_, rfl⟩
  have wm : wrap64 (now + 1) = m := by rw [hm]; unfold wrap64; omega
  rw [← hm] at HG HK
  obtain ⟨w1, hw1⟩ : ∃ w1, w1 = w.setCell ⟨E, 75, none⟩ (.int .i64 m) := ⟨_, rfl⟩
  have e1 : w1.heap[E]? = some (.cells (engS L P a b hv m) 64 (0, 0)) := by rw [hw1]; exact (heap_set hE).trans rfl
  have k1 : KB [E] [64] [] [] w w1 := by rw [hw1]; exact (KB.refl _ _ _ _ _).set (p := ⟨E, 75, none⟩) hE (by simp) (by simp) _
  have p1 := k1.1.cells hP (by decide)
  have HPh := hid (gphase_k p1)
  have G := hid (HG w1 e1 k1)
  have c75 := cell_at hE (i := 75) (v := .int .i64 now) rfl
  have f75 := free_at hE 75
  have d1 := cell_at e1 (i := 1) (v := .pointer (some ⟨P, 0, none⟩)) rfl
  have HT := hid ht
  have FX := hid (And.intro e1 k1)
  have HW1 := hid hw1
  have ZZ := hid HZ
  have KK := hid HK
  clear hE hP hnow HG ht e1 k1 p1 hw1 hm HZ HK
  go_enter Tryz.func22, Tryz.ntmps22
  go_upto_region 2 with fail
  rw [← HW1.out]
  go_wp2_with fail
  refine HPh.out.mono ?_
  rintro e w1' ⟨rfl, rfl⟩
  clear HPh c75 f75
  go_wp2_with fail
  refine G.out.mono ?_
  rintro e w2 ⟨g, rfl, z2, k2⟩
  have e2 := k2.1.cells FX.out.1 ⟨HT.out, by decide⟩
  have k02 : KB (E :: bs) (64 :: ts) ms rs w w2 := (FX.out.2.mono (by simp) (by simp) (by simp) (by simp)).then k2 (by intro x hx _; simp [hx]) (by intro x hx; simp [hx]) (fun _ q _ => q) (fun _ q _ => q)
  have gg := ZZ.out g w2 z2
  have r0 := cell_at gg (i := 0) rfl
  have r1 := cell_at gg (i := 1) rfl
  obtain ⟨w3, hw3⟩ : ∃ w3, w3 = w2.alloc (.cells #[.int .i64 id, .int .i64 0] 122) := ⟨_, rfl⟩
  have b3 : Below w2.heap.size w2 w3 := by rw [hw3]; exact below_alloc (Below.refl _ _) _
  have HWk := hid (KK.out g w2 w3 z2 b3 (below_heap b3 e2) (k02.below b3))
  have W3 := hid hw3
  have g3 : w3.heap[w2.heap.size]? = some (.cells #[.int .i64 id, .int .i64 0] 122 (0, 0)) := by rw [hw3]; exact heap_alloc_new _ _
  have s0 := cell_at g3 (i := 0) rfl
  have s1 := cell_at g3 (i := 1) rfl
  clear G d1 z2 e2 k2 k02 gg hw3 b3 g3
  go_wp2
  refine wp_loop_rounds 2 ?_
  rw [rounds_succ]
  go_upto_region 6 with fail
  rw [← W3.out]
  go_wp2_with fail
  refine HWk.out.mono ?_
  rintro e w4 ⟨rfl, z4, k4⟩
  have FF := hid (And.intro z4 k4)
  clear HWk z4 k4 r0 r1 s0 s1
  go_wp2
  rw [rounds_succ]
  go_wp2
  go_end0
  exact ⟨rfl, FF.out⟩
set_option maxRecDepth 100000 in
set_option maxHeartbeats 3200000 in
theorem estep_points {Z2 : World → Prop} {bs2 : List Nat} {ts2 : List TypeId} {ms2 rs2 : List Nat} {I J n c c2 : Nat} {l : List Value} (hn : 1 ≤ n ∧ n ≤ 3) (hl : ∀ u ∈ l, u.oneCell' = true) (hE : w.heap[E]? = some (.cells (engS L P a b hv now) 64 (0, 0))) (hP : w.heap[P]? = some (.cells (grpC L lg Q 4 tk td N wv) 113 (0, 0))) (hnow : 0 ≤ now ∧ now ≤ 1000) (ht : 64 ∉ ts)
    (HG : ∀ w1, w1.heap[E]? = some (.cells (engS L P a b hv (now + 1)) 64 (0, 0)) → KB [E] [64] [] [] w w1 → Calls Tryz.prog 45 #[.pointer (some ⟨P, 0, none⟩)] w1 fun e w' => e = .returned (.slice none 0 0) ∧ Z w' ∧ KB bs ts ms rs w1 w')
    (HZ : ∀ w2, Z w2 → w2.heap[P]? = some (.cells (grpC L lg Q 5 (.slice (some ⟨I, 0, none⟩) n c) (.slice (some ⟨J, 0, none⟩) n c2) N wv) 113 (0, 0)) ∧ w2.ownsRow 0 3 1 (.slice (some ⟨I, 0, none⟩) n c) n l ∧ w2.ownsRow 0 24 1 (.slice (some ⟨J, 0, none⟩) n c2) n (List.replicate n (.int .i64 0)))
    (HK : ∀ w2 w3 I' c' J' c2', Z w2 → Below w2.heap.size w2 w3 → w3.heap[E]? = some (.cells (engS L P a b hv (now + 1)) 64 (0, 0)) → KB (E :: bs) (64 :: ts) ms rs w w3 → w3.ownsRow 0 3 1 (.slice (some ⟨I', 0, none⟩) n c') n l → w3.ownsRow 0 24 1 (.slice (some ⟨J', 0, none⟩) n c2') n (List.replicate n (.int .i64 0)) →
      Calls Tryz.prog 47 #[.pointer (some ⟨E, 0, none⟩), .slice (some ⟨I', 0, none⟩) n c', .slice (some ⟨J', 0, none⟩) n c2'] w3 fun e w' => e = .returned (.tuple #[]) ∧ Z2 w' ∧ KB bs2 ts2 ms2 rs2 w w') :
    Calls Tryz.prog 22 #[.pointer (some ⟨E, 0, none⟩)] w fun e w' => e = .returned (.tuple #[]) ∧ Z2 w' ∧ KB bs2 ts2 ms2 rs2 w w' := by
  obtain ⟨m, hm⟩ : ∃ m, m = now + 1 := ⟨_, rfl⟩
  have wm : wrap64 (now + 1) = m := by rw [hm]; unfold wrap64; omega
  rw [← hm] at HG HK
  obtain ⟨w1, hw1⟩ : ∃ w1, w1 = w.setCell ⟨E, 75, none⟩ (.int .i64 m) := ⟨_, rfl⟩
  have e1 : w1.heap[E]? = some (.cells (engS L P a b hv m) 64 (0, 0)) := by rw [hw1]; exact (heap_set hE).trans rfl
  have k1 : KB [E] [64] [] [] w w1 := by rw [hw1]; exact (KB.refl _ _ _ _ _).set (p := ⟨E, 75, none⟩) hE (by simp) (by simp) _
  have p1 := k1.1.cells hP (by decide)
  have HPh := hid (gphase_k p1)
  have G := hid (HG w1 e1 k1)
  have c75 := cell_at hE (i := 75) (v := .int .i64 now) rfl
  have f75 := free_at hE 75
  have d1 := cell_at e1 (i := 1) (v := .pointer (some ⟨P, 0, none⟩)) rfl
  have HT := hid ht
  have FX := hid (And.intro e1 k1)
  have HW1 := hid hw1
  have ZZ := hid HZ
  have KK := hid HK
  have HN := hid (And.intro hn hl)
  clear hE hP hnow HG ht e1 k1 p1 hw1 hm HZ HK hn hl
  go_enter Tryz.func22, Tryz.ntmps22
  go_upto_region 2 with fail
  rw [← HW1.out]
  go_wp2_with fail
  refine HPh.out.mono ?_
  rintro e w1' ⟨rfl, rfl⟩
  clear HPh c75 f75
  go_wp2_with fail
  refine G.out.mono ?_
  rintro e w2 ⟨rfl, z2, k2⟩
  have e2 := k2.1.cells FX.out.1 ⟨HT.out, by decide⟩
  have k02 : KB (E :: bs) (64 :: ts) ms rs w w2 := (FX.out.2.mono (by simp) (by simp) (by simp) (by simp)).then k2 (by intro x hx _; simp [hx]) (by intro x hx; simp [hx]) (fun _ q _ => q) (fun _ q _ => q)
  obtain ⟨p2, oI, oJ⟩ := ZZ.out w2 z2
  have HP2 := hid (gphase_k p2)
  have d2 := cell_at e2 (i := 1) (v := .pointer (some ⟨P, 0, none⟩)) rfl
  have HTa := hid (fun (wz : World) (hz : Below w2.heap.size w2 wz) => gTaken_k (below_heap hz p2) (below_own hz oI) HN.out.1 HN.out.2)
  have HTo := hid (fun (wz : World) (hz : Below w2.heap.size w2 wz) => gTold_k (below_heap hz p2) (below_own hz oJ) HN.out.1 (by intro u hu; rw [List.eq_of_mem_replicate hu]; rfl))
  have KKK := hid (fun w3 I' c' J' c2' (hz : Below w2.heap.size w2 w3) => KK.out w2 w3 I' c' J' c2' z2 hz (below_heap hz e2) (k02.below hz))
  clear G d1 z2 e2 k2 k02 p2 oI oJ
  go_wp2
  refine wp_loop_rounds 1 ?_
  rw [rounds_succ]
  go_wp2_with fail
  refine HP2.out.mono ?_
  rintro e w3 ⟨rfl, rfl⟩
  clear HP2
  go_upto_region 9 with fail
  refine start_ (n := 12) (S := fun w' => w'.cell? ⟨E, 1, none⟩ = some (.pointer (some ⟨P, 0, none⟩)) ∧ Below w2.heap.size w2 w') (ds := [11]) (tf 12 0) (by kernel_rfl) rfl rfl ⟨d2, (Below.refl w2.heap.size w2).drew⟩ (fun hHeld => ?_); refine pure_ (i := 0) (N := some 43) (v := ?_) (a' := ?_) (tf 12 1) rfl rfl (by kernel_rfl) (fun _ _ _ h => h) (Or.inl ⟨by rfl, ?_⟩) ?_ ?_; rotate_left; (· intro w'; go_simp; (with_reducible rfl)); rotate_left; (· simp only [pn_]; rfl); refine pure_ (i := 1) (N := some 44) (v := ?_) (a' := ?_) (tf 12 3) rfl rfl (by kernel_rfl) (fun _ _ _ h => h) (Or.inl ⟨by rfl, ?_⟩) ?_ ?_; rotate_left; (· intro w'; go_simp; (with_reducible rfl)); rotate_left; (· simp only [pn_]; rfl); refine pure_ (i := 2) (N := some 45) (v := ?_) (a' := ?_) (tf 12 7) rfl rfl (by kernel_rfl) (fun _ _ _ h => h) (Or.inl ⟨by rfl, ?_⟩) ?_ ?_; rotate_left; (· intro w'; go_simp; (with_reducible rfl)); rotate_left; (· simp only [pn_]; rfl); refine pure_ (i := 3) (N := some 46) (v := ?_) (a' := ?_) (tf 12 15) rfl rfl (by kernel_rfl) (fun _ _ _ h => h) (Or.inl ⟨by rfl, ?_⟩) ?_ ?_; rotate_left; (· intro w'; go_simp; (with_reducible rfl)); rotate_left; (· simp only [pn_]; rfl); refine pure_ (i := 6) (N := some 49) (v := ?_) (a' := ?_) (tf 12 79) rfl rfl (by kernel_rfl) (fun _ _ _ h => h) (Or.inl ⟨by rfl, ?_⟩) ?_ ?_; rotate_left; (· intro w'; go_simp; (with_reducible rfl)); rotate_left; (· simp only [pn_]; rfl); refine pure_ (i := 7) (N := some 50) (v := ?_) (a' := ?_) (tf 12 207) rfl rfl (by kernel_rfl) (fun _ _ _ h => h) (Or.inl ⟨by rfl, ?_⟩) ?_ ?_; rotate_left; (· intro w'; go_simp; (with_reducible rfl)); rotate_left; (· simp only [pn_]; rfl); refine pure_ (i := 8) (N := some 51) (v := ?_) (a' := ?_) (tf 12 463) rfl rfl (by kernel_rfl) (fun _ _ _ h => h) (Or.inl ⟨by rfl, ?_⟩) ?_ ?_; rotate_left; (· intro w'; go_simp; (with_reducible rfl)); rotate_left; (· simp only [pn_]; rfl); refine take_ (i := 4) (N := some 47) (v := ?_) (a' := ?_) (tf 12 479) rfl rfl (by kernel_rfl) (fun _ _ _ h => h) (Or.inl ⟨by rfl, ?_⟩) hHeld ?_ ?_; rotate_left; (· rintro w' ⟨s0, s1⟩; go_simp; (with_reducible rfl)); rotate_left; (· simp only [pn_]; rfl); refine take_ (i := 9) (N := some 52) (v := ?_) (a' := ?_) (tf 12 991) rfl rfl (by kernel_rfl) (fun _ _ _ h => h) (Or.inl ⟨by rfl, ?_⟩) hHeld ?_ ?_; rotate_left; (· rintro w' ⟨s0, s1⟩; go_simp; (with_reducible rfl)); rotate_left; (· simp only [pn_]; rfl); refine one_ (i := 5) (N := some 48) (tf 12 1023) rfl rfl (by kernel_rfl) (by decide) (fun K hK => ?_); refine goes_ Tryz.func48 (by kernel_rfl) rfl #[.pointer (some ⟨P, 0, none⟩)] (by rfl) rfl rfl (by simp only [List.map_toArray, List.map_cons, List.map_nil]; rfl) ?_; (with_reducible refine ((HTa.out _ hHeld.2)).mono ?_); rintro e wy ⟨I', c', rfl, oI, -, by_⟩; refine ⟨_, rfl, ?_⟩; refine hK.out _ _ ⟨(below_cell by_ hHeld.1), (below_then hHeld.2 by_)⟩ (fun hHeld => ?_); clear hK K; refine norm_ (a' := ?_) ?_ ?_; rotate_left; (· show Act.put _ (some 48) _ = _; simp only [pn_]; rfl); refine one_ (i := 10) (N := some 53) (tf 12 2047) rfl rfl (by kernel_rfl) (by decide) (fun K hK => ?_); refine goes_ Tryz.func49 (by kernel_rfl) rfl #[.pointer (some ⟨P, 0, none⟩)] (by rfl) rfl rfl (by simp only [List.map_toArray, List.map_cons, List.map_nil]; rfl) ?_; (with_reducible refine ((HTo.out _ hHeld.2)).mono ?_); rintro e wu ⟨J', c2', rfl, oJ, -, bu_⟩; refine ⟨_, rfl, ?_⟩; have oI' := below_own bu_ oI; refine hK.out _ _ ⟨(below_cell bu_ hHeld.1), (below_then hHeld.2 bu_)⟩ (fun hHeld => ?_); clear hK K; refine norm_ (a' := ?_) ?_ ?_; rotate_left; (· show Act.put _ (some 53) _ = _; simp only [pn_]; rfl); refine last_ (i := 11) (N := some 54) (tf 12 4095) rfl rfl (by kernel_rfl) (by decide) (fun K hK => ?_); refine goes_ Tryz.func47 (by kernel_rfl) rfl #[.pointer (some ⟨E, 0, none⟩), .slice (some ⟨I', 0, none⟩) n c', .slice (some ⟨J', 0, none⟩) n c2'] (by rfl) rfl rfl (by simp only [List.map_toArray, List.map_cons, List.map_nil]; rfl) ?_; (with_reducible refine ((KKK.out _ I' c' J' c2' hHeld.2 oI' oJ)).mono ?_); rintro e wz ⟨rfl, z4, k4⟩; refine ⟨_, rfl, ?_⟩; refine hK.out _ _ ?_; clear hK K; refine norm_ (a' := ?_) ?_ ?_; rotate_left; (· show Act.put _ (some 54) _ = _; simp only [pn_]; rfl); refine done_ (by kernel_rfl) ?_
  have FF := hid (And.intro z4 k4)
  clear z4 k4
  go_wp2
  go_end0
  exact ⟨rfl, FF.out⟩
end
end Go.Proofs.YtnidgljkbmceaaaGreatDoor
