/- TopSkew's walks: an engine is opened, in detail. (printed by gen_op.py) -/
import Derived.Test.YtnidgljkbmceaaaGreatDoorPn
import Derived.Test.YtnidgljkbmceaaaGreatDoorG29
import Derived.Test.YtnidgljkbmceaaaGreatDoorG30
set_option linter.unusedVariables false
set_option linter.unusedSimpArgs false
namespace Go.Proofs.YtnidgljkbmceaaaGreatDoor
open Go.RowKit PrintLast Go.Maps Go.MapKept
theorem snew_k {w : World} : Calls Tryz.prog 32 #[] w fun e w' => ∃ S SM : Nat, e = .returned (.pointer (some ⟨S, 0, none⟩)) ∧ w'.heap[S]? = some (.cells (stoC SM 0) 137 (0, 0)) ∧ w'.heap[SM]? = some (.map #[] 0) ∧ w.heap.size ≤ S ∧ w.heap.size ≤ SM ∧ Below w.heap.size w w' := by
  have hmm := @run_makeMap Tryz.prog
  go_enter Tryz.func32, Tryz.ntmps32
  go_wp2
  go_ret
  have q := heap_alloc_new (w.alloc (.map #[] 0)) (.cells #[.map (some w.heap.size), .int .i64 0] 137)
  rw [show (w.alloc (.map #[] 0)).heap.size = w.heap.size + 1 by simp] at q
  exact ⟨w.heap.size + 1, w.heap.size, rfl, q, below_heap (below_alloc (Below.refl _ _) _) (heap_alloc_new _ _), by simp, Nat.le_refl _, below_alloc (below_alloc (Below.refl _ _) _) _⟩
set_option maxRecDepth 100000 in
set_option maxHeartbeats 3200000 in
theorem lnew_k {w : World} (hT : Table w) {T C c : Nat} (h : TabAt w T C) : Calls Tryz.prog 14 #[.slice (some ⟨T, 0, none⟩) 1 c] w fun e w' => ∃ L R S SM O : Nat, e = .returned (.tuple #[.pointer (some ⟨L, 0, none⟩), .int .i64 0]) ∧
    w'.heap[L]? = some (.cells (ledC T c S O 0 R 1 1) 95 (0, 0)) ∧ w'.heap[R]? = some (.cells st0 89 (0, 0)) ∧ w'.heap[S]? = some (.cells (stoC SM 0) 137 (0, 0)) ∧ w'.heap[SM]? = some (.map #[] 0) ∧ w'.heap[O]? = some (.map #[] 0) ∧ O ≠ SM ∧ (w.heap.size ≤ L ∧ w.heap.size ≤ R ∧ w.heap.size ≤ S ∧ w.heap.size ≤ SM ∧ w.heap.size ≤ O) ∧ Below w.heap.size w w' := by
  have TT := hid hT
  have HR := hid (right_one (c := c) h)
  clear hT h
  have hmm := @run_makeMap Tryz.prog
  go_enter Tryz.func14, Tryz.ntmps14
  go_wp2_with fail
  refine HR.out.mono ?_
  rintro e w1 ⟨rfl, b1⟩
  have BB := hid b1
  have HF := hid (first_any (TT.out.below b1))
  clear HR b1
  go_wp2_with fail
  refine HF.out.mono ?_
  rintro e w2 ⟨rfl, b2⟩
  replace BB := hid (below_then BB.out b2)
  have HE := hid (empty_any (TT.out.below BB.out))
  clear HF b2
  go_wp2_with fail
  refine HE.out.mono ?_
  rintro e w3 ⟨rfl, b3⟩
  replace BB := hid (below_then BB.out b3)
  have HS := hid (sum_dig (n := 0) rfl (TT.out.below BB.out) (BSA.nil w3) (by simp))
  clear HE b3
  go_wp2_with fail
  refine HS.out.mono ?_
  rintro e w4 ⟨rfl, b4⟩
  replace BB := hid (below_then BB.out b4)
  clear HS b4
  obtain ⟨d0, hd0⟩ : ∃ d, d = first0 := ⟨_, rfl⟩
  obtain ⟨d1, hd1⟩ : ∃ d, d = dig [0] := ⟨_, rfl⟩
  obtain ⟨d2, hd2⟩ : ∃ d, d = dig [] := ⟨_, rfl⟩
  rw [← hd0, ← hd1, ← hd2]
  have HD := hid (show st0 = #[.string d0, .string d1, .string d2, .pointer none] by rw [hd0, hd1, hd2]; rfl)
  clear hd0 hd1 hd2
  obtain ⟨g, hg⟩ : ∃ g, g = w4.heap.size := ⟨_, rfl⟩
  have G0 := heap_alloc_new w4 (.cells #[.string d0, .string d1, .string d2, .pointer none] 89)
  have al := below_alloc (Below.refl _ w4) (.cells #[.string d0, .string d1, .string d2, .pointer none] 89)
  rw [← hg] at G0
  have HG := hid hg
  replace BB := hid (below_then BB.out al)
  clear al hg
  go_upto_region 4 with fail
  rw [← HG.out]
  generalize w4.alloc (.cells #[.string d0, .string d1, .string d2, .pointer none] 89) = w5 at *
  obtain ⟨v0, v1, v2, v3, -, -, -, -⟩ := four G0
  have HN : Hid (∀ w' : World, Calls Tryz.prog 32 #[] w' fun e w'' => ∃ S SM : Nat, e = .returned (.pointer (some ⟨S, 0, none⟩)) ∧ w''.heap[S]? = some (.cells (stoC SM 0) 137 (0, 0)) ∧ w''.heap[SM]? = some (.map #[] 0) ∧ w'.heap.size ≤ S ∧ w'.heap.size ≤ SM ∧ Below w'.heap.size w' w'') := hid (fun w' => snew_k)
  have NM : ∀ {w1 : World} (g : Nat), Below w5.heap.size w5 w1 → w1.heap.size = g → (w1.alloc (.map #[] 0)).heap[g]? = some (.map #[] 0) := fun g _ e => by subst e; exact heap_alloc_new _ _
  have NR : ∀ {w1 : World} (g : Nat), Below w5.heap.size w5 w1 → w1.heap.size = g → (w1.alloc (.cells #[.string d0, .string d1, .string d2, .pointer none] 89)).heap[g]? = some (.cells #[.string d0, .string d1, .string d2, .pointer none] 89 (0, 0)) := fun g _ e => by subst e; exact heap_alloc_new _ _
  go_wp2
  refine start_ (n := 9) (S := fun w' => w'.cell? ⟨g, 0, none⟩ = some (.string d0) ∧ w'.cell? ⟨g, 1, none⟩ = some (.string d1) ∧ w'.cell? ⟨g, 2, none⟩ = some (.string d2) ∧ w'.cell? ⟨g, 3, none⟩ = some (.pointer none) ∧ Below w5.heap.size w5 w') (ds := []) (tf 9 0) (by kernel_rfl) rfl rfl ⟨v0, v1, v2, v3, (Below.refl w5.heap.size w5).drew⟩ (fun hHeld => ?_); refine pure_ (i := 0) (N := some 12) (v := ?_) (a' := ?_) (tf 9 1) rfl rfl (by kernel_rfl) (fun _ _ _ h => h) (Or.inl ⟨by rfl, ?_⟩) ?_ ?_; rotate_left; (· intro w'; go_simp; (with_reducible rfl)); rotate_left; (· simp only [pn_]; rfl); refine take_ (i := 3) (N := some 15) (v := ?_) (a' := ?_) (tf 9 9) rfl rfl (by kernel_rfl) (fun _ _ _ h => h) (Or.inl ⟨by rfl, ?_⟩) hHeld ?_ ?_; rotate_left; (· rintro w' ⟨s0, s1, s2, s3, s4⟩; go_simp; (with_reducible rfl)); rotate_left; (· simp only [pn_]; rfl); refine join_ (σ := Nat × Nat × Nat × Nat) 4 (tf 9 31) (fun s => [(13, .pointer (some ⟨s.1, 0, none⟩)), (14, .map (some s.2.1)), (16, .slice (some ⟨s.2.2.1, 0, none⟩) 1 1)]) (fun s w' => w'.heap[s.2.2.1]? = some (.cells #[.string d0, .string d1, .string d2, .pointer none] 89 (0, 0)) ∧ (w'.heap[s.1]? = some (.cells (stoC s.2.2.2 0) 137 (0, 0)) ∧ w'.heap[s.2.2.2]? = some (.map #[] 0)) ∧ w'.heap[s.2.1]? = some (.map #[] 0) ∧ s.2.1 ≠ s.2.2.2 ∧ (w5.heap.size ≤ s.1 ∧ w5.heap.size ≤ s.2.2.2) ∧ w5.heap.size ≤ s.2.1 ∧ w5.heap.size ≤ s.2.2.1 ∧ w'.cell? ⟨g, 0, none⟩ = some (.string d0) ∧ w'.cell? ⟨g, 1, none⟩ = some (.string d1) ∧ w'.cell? ⟨g, 2, none⟩ = some (.string d2) ∧ w'.cell? ⟨g, 3, none⟩ = some (.pointer none) ∧ Below w5.heap.size w5 w') ?_ ?_; rotate_left
  · intro hCont
    refine three_ (i := 1) (j := 2) (k := 4) (Ni := some 13) (Nj := some 14) (Nk := some 16) (tf 9 11) (tf 9 13) (tf 9 25) rfl rfl rfl rfl rfl rfl (by kernel_rfl) (by decide) (by decide) (by decide) (fun K hK => ?_) (fun K hK => ?_) (fun K hK => ?_)
    · skip
      refine goes_ Tryz.func32 (by kernel_rfl) rfl #[] (by rfl) rfl rfl (by simp only [List.map_toArray, List.map_cons, List.map_nil]) ?_; (with_reducible refine ((HN.out _)).mono ?_); rintro e' wy ⟨S3, SM3, rfl, kS, kM, zS, zM, by_⟩; refine ⟨_, rfl, ?_⟩; have f13 := And.intro (Nat.le_trans hHeld.2.2.2.2.size zS) (Nat.le_trans hHeld.2.2.2.2.size zM); have y13 : w5.heap.size ≤ wy.heap.size := Nat.le_trans hHeld.2.2.2.2.size by_.size; have k13 := And.intro kS kM; refine hK.out _ _ ⟨(below_cell by_ hHeld.1), (below_cell by_ hHeld.2.1), (below_cell by_ hHeld.2.2.1), (below_cell by_ hHeld.2.2.2.1), (below_then hHeld.2.2.2.2 by_)⟩ (fun hHeld => ?_); clear hK K; refine norm_ (a' := ?_) ?_ ?_; rotate_left; (· show Act.put _ (some 13) _ = _; simp only [pn_]; rfl); refine two_ (i := 2) (j := 4) (Ni := some 14) (Nj := some 16) (tf 9 15) (tf 9 27) rfl rfl rfl rfl (by kernel_rfl) (by decide) (by decide) (fun K hK => ?_) (fun K hK => ?_)
      · skip
        refine value_ (w1 := ?_) (v := ?_) (by rfl) rfl ?_ ?_; rotate_left 2; (· go_simp; constructor; (· rfl); (· rfl))
        have ne : wy.heap.size ≠ SM3 := by have q := lt_of_block k13.2; first | omega | (simp at q; omega)
        replace k13 := And.intro (below_heap (below_alloc (Below.refl _ _) (.map #[] 0)) k13.1) (below_heap (below_alloc (Below.refl _ _) (.map #[] 0)) k13.2)
        have k14 := NM wy.heap.size hHeld.2.2.2.2 (by simp); refine hK.out _ _ ⟨(below_cell (below_alloc (Below.refl _ _) (.map #[] 0)) hHeld.1), (below_cell (below_alloc (Below.refl _ _) (.map #[] 0)) hHeld.2.1), (below_cell (below_alloc (Below.refl _ _) (.map #[] 0)) hHeld.2.2.1), (below_cell (below_alloc (Below.refl _ _) (.map #[] 0)) hHeld.2.2.2.1), (below_then hHeld.2.2.2.2 (below_alloc (Below.refl _ _) (.map #[] 0)))⟩ (fun hHeld => ?_); clear hK K; refine norm_ (a' := ?_) ?_ ?_; rotate_left; (· show Act.put _ (some 14) _ = _; simp only [pn_]; rfl); refine one_ (i := 4) (N := some 16) (tf 9 31) rfl rfl (by kernel_rfl) (by decide) (fun K hK => ?_); refine value_ (w1 := ?_) (v := ?_) (by rfl) rfl ?_ ?_; rotate_left 2; (· go_simp; constructor; (· rfl); (· rfl))
        replace k14 := below_heap (below_alloc (Below.refl _ _) (.cells #[.string d0, .string d1, .string d2, .pointer none] 89)) k14
        replace k13 := And.intro (below_heap (below_alloc (Below.refl _ _) (.cells #[.string d0, .string d1, .string d2, .pointer none] 89)) k13.1) (below_heap (below_alloc (Below.refl _ _) (.cells #[.string d0, .string d1, .string d2, .pointer none] 89)) k13.2)
        have k16 := NR (wy.heap.size + 1) hHeld.2.2.2.2 (by simp); refine hK.out _ _ ⟨(below_cell (below_alloc (Below.refl _ _) (.cells #[.string d0, .string d1, .string d2, .pointer none] 89)) hHeld.1), (below_cell (below_alloc (Below.refl _ _) (.cells #[.string d0, .string d1, .string d2, .pointer none] 89)) hHeld.2.1), (below_cell (below_alloc (Below.refl _ _) (.cells #[.string d0, .string d1, .string d2, .pointer none] 89)) hHeld.2.2.1), (below_cell (below_alloc (Below.refl _ _) (.cells #[.string d0, .string d1, .string d2, .pointer none] 89)) hHeld.2.2.2.1), (below_then hHeld.2.2.2.2 (below_alloc (Below.refl _ _) (.cells #[.string d0, .string d1, .string d2, .pointer none] 89)))⟩ (fun hHeld => ?_); clear hK K; refine norm_ (a' := ?_) ?_ ?_; rotate_left; (· show Act.put _ (some 16) _ = _; simp only [pn_]; rfl); exact norm_ (by first | (simp only [putAll, Act.put, List.setIfInBounds_toArray, List.set_cons_zero, List.set_cons_succ]; done) | (simp only [putAll, Act.put, List.setIfInBounds_toArray, List.set_cons_zero, List.set_cons_succ]; rfl)) (hCont (S3, wy.heap.size, (wy.heap.size + 1), SM3) _ ⟨k16, k13, k14, ne, f13, (by dsimp only; omega), (by dsimp only; omega), hHeld⟩)
      · skip
        refine value_ (w1 := ?_) (v := ?_) (by rfl) rfl ?_ ?_; rotate_left 2; (· go_simp; constructor; (· rfl); (· rfl))
        replace k13 := And.intro (below_heap (below_alloc (Below.refl _ _) (.cells #[.string d0, .string d1, .string d2, .pointer none] 89)) k13.1) (below_heap (below_alloc (Below.refl _ _) (.cells #[.string d0, .string d1, .string d2, .pointer none] 89)) k13.2)
        have k16 := NR wy.heap.size hHeld.2.2.2.2 (by simp); refine hK.out _ _ ⟨(below_cell (below_alloc (Below.refl _ _) (.cells #[.string d0, .string d1, .string d2, .pointer none] 89)) hHeld.1), (below_cell (below_alloc (Below.refl _ _) (.cells #[.string d0, .string d1, .string d2, .pointer none] 89)) hHeld.2.1), (below_cell (below_alloc (Below.refl _ _) (.cells #[.string d0, .string d1, .string d2, .pointer none] 89)) hHeld.2.2.1), (below_cell (below_alloc (Below.refl _ _) (.cells #[.string d0, .string d1, .string d2, .pointer none] 89)) hHeld.2.2.2.1), (below_then hHeld.2.2.2.2 (below_alloc (Below.refl _ _) (.cells #[.string d0, .string d1, .string d2, .pointer none] 89)))⟩ (fun hHeld => ?_); clear hK K; refine norm_ (a' := ?_) ?_ ?_; rotate_left; (· show Act.put _ (some 16) _ = _; simp only [pn_]; rfl); refine one_ (i := 2) (N := some 14) (tf 9 31) rfl rfl (by kernel_rfl) (by decide) (fun K hK => ?_); refine value_ (w1 := ?_) (v := ?_) (by rfl) rfl ?_ ?_; rotate_left 2; (· go_simp; constructor; (· rfl); (· rfl))
        have ne : (wy.heap.size + 1) ≠ SM3 := by have q := lt_of_block k13.2; first | omega | (simp at q; omega)
        replace k16 := below_heap (below_alloc (Below.refl _ _) (.map #[] 0)) k16
        replace k13 := And.intro (below_heap (below_alloc (Below.refl _ _) (.map #[] 0)) k13.1) (below_heap (below_alloc (Below.refl _ _) (.map #[] 0)) k13.2)
        have k14 := NM (wy.heap.size + 1) hHeld.2.2.2.2 (by simp); refine hK.out _ _ ⟨(below_cell (below_alloc (Below.refl _ _) (.map #[] 0)) hHeld.1), (below_cell (below_alloc (Below.refl _ _) (.map #[] 0)) hHeld.2.1), (below_cell (below_alloc (Below.refl _ _) (.map #[] 0)) hHeld.2.2.1), (below_cell (below_alloc (Below.refl _ _) (.map #[] 0)) hHeld.2.2.2.1), (below_then hHeld.2.2.2.2 (below_alloc (Below.refl _ _) (.map #[] 0)))⟩ (fun hHeld => ?_); clear hK K; refine norm_ (a' := ?_) ?_ ?_; rotate_left; (· show Act.put _ (some 14) _ = _; simp only [pn_]; rfl); exact norm_ (by first | (simp only [putAll, Act.put, List.setIfInBounds_toArray, List.set_cons_zero, List.set_cons_succ]; done) | (simp only [putAll, Act.put, List.setIfInBounds_toArray, List.set_cons_zero, List.set_cons_succ]; rfl)) (hCont (S3, (wy.heap.size + 1), wy.heap.size, SM3) _ ⟨k16, k13, k14, ne, f13, (by dsimp only; omega), (by dsimp only; omega), hHeld⟩)
    · skip
      refine value_ (w1 := ?_) (v := ?_) (by rfl) rfl ?_ ?_; rotate_left 2; (· go_simp; constructor; (· rfl); (· rfl)); have k14 := NM w5.heap.size hHeld.2.2.2.2 (by simp); refine hK.out _ _ ⟨(below_cell (below_alloc (Below.refl _ _) (.map #[] 0)) hHeld.1), (below_cell (below_alloc (Below.refl _ _) (.map #[] 0)) hHeld.2.1), (below_cell (below_alloc (Below.refl _ _) (.map #[] 0)) hHeld.2.2.1), (below_cell (below_alloc (Below.refl _ _) (.map #[] 0)) hHeld.2.2.2.1), (below_then hHeld.2.2.2.2 (below_alloc (Below.refl _ _) (.map #[] 0)))⟩ (fun hHeld => ?_); clear hK K; refine norm_ (a' := ?_) ?_ ?_; rotate_left; (· show Act.put _ (some 14) _ = _; simp only [pn_]; rfl); refine two_ (i := 1) (j := 4) (Ni := some 13) (Nj := some 16) (tf 9 15) (tf 9 29) rfl rfl rfl rfl (by kernel_rfl) (by decide) (by decide) (fun K hK => ?_) (fun K hK => ?_)
      · skip
        refine goes_ Tryz.func32 (by kernel_rfl) rfl #[] (by rfl) rfl rfl (by simp only [List.map_toArray, List.map_cons, List.map_nil]) ?_; (with_reducible refine ((HN.out _)).mono ?_); rintro e' wy ⟨S3, SM3, rfl, kS, kM, zS, zM, by_⟩; refine ⟨_, rfl, ?_⟩; have f13 := And.intro (Nat.le_trans hHeld.2.2.2.2.size zS) (Nat.le_trans hHeld.2.2.2.2.size zM); have y13 : w5.heap.size ≤ wy.heap.size := Nat.le_trans hHeld.2.2.2.2.size by_.size
        have ne : w5.heap.size ≠ SM3 := by have z := zM; simp [show ∀ W : World, W.drew.heap = W.heap from fun _ => rfl] at z; omega
        replace k14 := below_heap by_ k14
        have k13 := And.intro kS kM; refine hK.out _ _ ⟨(below_cell by_ hHeld.1), (below_cell by_ hHeld.2.1), (below_cell by_ hHeld.2.2.1), (below_cell by_ hHeld.2.2.2.1), (below_then hHeld.2.2.2.2 by_)⟩ (fun hHeld => ?_); clear hK K; refine norm_ (a' := ?_) ?_ ?_; rotate_left; (· show Act.put _ (some 13) _ = _; simp only [pn_]; rfl); refine one_ (i := 4) (N := some 16) (tf 9 31) rfl rfl (by kernel_rfl) (by decide) (fun K hK => ?_); refine value_ (w1 := ?_) (v := ?_) (by rfl) rfl ?_ ?_; rotate_left 2; (· go_simp; constructor; (· rfl); (· rfl))
        replace k14 := below_heap (below_alloc (Below.refl _ _) (.cells #[.string d0, .string d1, .string d2, .pointer none] 89)) k14
        replace k13 := And.intro (below_heap (below_alloc (Below.refl _ _) (.cells #[.string d0, .string d1, .string d2, .pointer none] 89)) k13.1) (below_heap (below_alloc (Below.refl _ _) (.cells #[.string d0, .string d1, .string d2, .pointer none] 89)) k13.2)
        have k16 := NR wy.heap.size hHeld.2.2.2.2 (by simp); refine hK.out _ _ ⟨(below_cell (below_alloc (Below.refl _ _) (.cells #[.string d0, .string d1, .string d2, .pointer none] 89)) hHeld.1), (below_cell (below_alloc (Below.refl _ _) (.cells #[.string d0, .string d1, .string d2, .pointer none] 89)) hHeld.2.1), (below_cell (below_alloc (Below.refl _ _) (.cells #[.string d0, .string d1, .string d2, .pointer none] 89)) hHeld.2.2.1), (below_cell (below_alloc (Below.refl _ _) (.cells #[.string d0, .string d1, .string d2, .pointer none] 89)) hHeld.2.2.2.1), (below_then hHeld.2.2.2.2 (below_alloc (Below.refl _ _) (.cells #[.string d0, .string d1, .string d2, .pointer none] 89)))⟩ (fun hHeld => ?_); clear hK K; refine norm_ (a' := ?_) ?_ ?_; rotate_left; (· show Act.put _ (some 16) _ = _; simp only [pn_]; rfl); exact norm_ (by first | (simp only [putAll, Act.put, List.setIfInBounds_toArray, List.set_cons_zero, List.set_cons_succ]; done) | (simp only [putAll, Act.put, List.setIfInBounds_toArray, List.set_cons_zero, List.set_cons_succ]; rfl)) (hCont (S3, w5.heap.size, wy.heap.size, SM3) _ ⟨k16, k13, k14, ne, f13, (by dsimp only; omega), (by dsimp only; omega), hHeld⟩)
      · skip
        refine value_ (w1 := ?_) (v := ?_) (by rfl) rfl ?_ ?_; rotate_left 2; (· go_simp; constructor; (· rfl); (· rfl))
        replace k14 := below_heap (below_alloc (Below.refl _ _) (.cells #[.string d0, .string d1, .string d2, .pointer none] 89)) k14
        have k16 := NR (w5.heap.size + 1) hHeld.2.2.2.2 (by simp); refine hK.out _ _ ⟨(below_cell (below_alloc (Below.refl _ _) (.cells #[.string d0, .string d1, .string d2, .pointer none] 89)) hHeld.1), (below_cell (below_alloc (Below.refl _ _) (.cells #[.string d0, .string d1, .string d2, .pointer none] 89)) hHeld.2.1), (below_cell (below_alloc (Below.refl _ _) (.cells #[.string d0, .string d1, .string d2, .pointer none] 89)) hHeld.2.2.1), (below_cell (below_alloc (Below.refl _ _) (.cells #[.string d0, .string d1, .string d2, .pointer none] 89)) hHeld.2.2.2.1), (below_then hHeld.2.2.2.2 (below_alloc (Below.refl _ _) (.cells #[.string d0, .string d1, .string d2, .pointer none] 89)))⟩ (fun hHeld => ?_); clear hK K; refine norm_ (a' := ?_) ?_ ?_; rotate_left; (· show Act.put _ (some 16) _ = _; simp only [pn_]; rfl); refine one_ (i := 1) (N := some 13) (tf 9 31) rfl rfl (by kernel_rfl) (by decide) (fun K hK => ?_); refine goes_ Tryz.func32 (by kernel_rfl) rfl #[] (by rfl) rfl rfl (by simp only [List.map_toArray, List.map_cons, List.map_nil]) ?_; (with_reducible refine ((HN.out _)).mono ?_); rintro e' wy ⟨S3, SM3, rfl, kS, kM, zS, zM, by_⟩; refine ⟨_, rfl, ?_⟩; have f13 := And.intro (Nat.le_trans hHeld.2.2.2.2.size zS) (Nat.le_trans hHeld.2.2.2.2.size zM); have y13 : w5.heap.size ≤ wy.heap.size := Nat.le_trans hHeld.2.2.2.2.size by_.size
        have ne : w5.heap.size ≠ SM3 := by have z := zM; simp [show ∀ W : World, W.drew.heap = W.heap from fun _ => rfl] at z; omega
        replace k16 := below_heap by_ k16
        replace k14 := below_heap by_ k14
        have k13 := And.intro kS kM; refine hK.out _ _ ⟨(below_cell by_ hHeld.1), (below_cell by_ hHeld.2.1), (below_cell by_ hHeld.2.2.1), (below_cell by_ hHeld.2.2.2.1), (below_then hHeld.2.2.2.2 by_)⟩ (fun hHeld => ?_); clear hK K; refine norm_ (a' := ?_) ?_ ?_; rotate_left; (· show Act.put _ (some 13) _ = _; simp only [pn_]; rfl); exact norm_ (by first | (simp only [putAll, Act.put, List.setIfInBounds_toArray, List.set_cons_zero, List.set_cons_succ]; done) | (simp only [putAll, Act.put, List.setIfInBounds_toArray, List.set_cons_zero, List.set_cons_succ]; rfl)) (hCont (S3, w5.heap.size, (w5.heap.size + 1), SM3) _ ⟨k16, k13, k14, ne, f13, (by dsimp only; omega), (by dsimp only; omega), hHeld⟩)
    · skip
      refine value_ (w1 := ?_) (v := ?_) (by rfl) rfl ?_ ?_; rotate_left 2; (· go_simp; constructor; (· rfl); (· rfl)); have k16 := NR w5.heap.size hHeld.2.2.2.2 (by simp); refine hK.out _ _ ⟨(below_cell (below_alloc (Below.refl _ _) (.cells #[.string d0, .string d1, .string d2, .pointer none] 89)) hHeld.1), (below_cell (below_alloc (Below.refl _ _) (.cells #[.string d0, .string d1, .string d2, .pointer none] 89)) hHeld.2.1), (below_cell (below_alloc (Below.refl _ _) (.cells #[.string d0, .string d1, .string d2, .pointer none] 89)) hHeld.2.2.1), (below_cell (below_alloc (Below.refl _ _) (.cells #[.string d0, .string d1, .string d2, .pointer none] 89)) hHeld.2.2.2.1), (below_then hHeld.2.2.2.2 (below_alloc (Below.refl _ _) (.cells #[.string d0, .string d1, .string d2, .pointer none] 89)))⟩ (fun hHeld => ?_); clear hK K; refine norm_ (a' := ?_) ?_ ?_; rotate_left; (· show Act.put _ (some 16) _ = _; simp only [pn_]; rfl); refine two_ (i := 1) (j := 2) (Ni := some 13) (Nj := some 14) (tf 9 27) (tf 9 29) rfl rfl rfl rfl (by kernel_rfl) (by decide) (by decide) (fun K hK => ?_) (fun K hK => ?_)
      · skip
        refine goes_ Tryz.func32 (by kernel_rfl) rfl #[] (by rfl) rfl rfl (by simp only [List.map_toArray, List.map_cons, List.map_nil]) ?_; (with_reducible refine ((HN.out _)).mono ?_); rintro e' wy ⟨S3, SM3, rfl, kS, kM, zS, zM, by_⟩; refine ⟨_, rfl, ?_⟩; have f13 := And.intro (Nat.le_trans hHeld.2.2.2.2.size zS) (Nat.le_trans hHeld.2.2.2.2.size zM); have y13 : w5.heap.size ≤ wy.heap.size := Nat.le_trans hHeld.2.2.2.2.size by_.size
        replace k16 := below_heap by_ k16
        have k13 := And.intro kS kM; refine hK.out _ _ ⟨(below_cell by_ hHeld.1), (below_cell by_ hHeld.2.1), (below_cell by_ hHeld.2.2.1), (below_cell by_ hHeld.2.2.2.1), (below_then hHeld.2.2.2.2 by_)⟩ (fun hHeld => ?_); clear hK K; refine norm_ (a' := ?_) ?_ ?_; rotate_left; (· show Act.put _ (some 13) _ = _; simp only [pn_]; rfl); refine one_ (i := 2) (N := some 14) (tf 9 31) rfl rfl (by kernel_rfl) (by decide) (fun K hK => ?_); refine value_ (w1 := ?_) (v := ?_) (by rfl) rfl ?_ ?_; rotate_left 2; (· go_simp; constructor; (· rfl); (· rfl))
        have ne : wy.heap.size ≠ SM3 := by have q := lt_of_block k13.2; first | omega | (simp at q; omega)
        replace k16 := below_heap (below_alloc (Below.refl _ _) (.map #[] 0)) k16
        replace k13 := And.intro (below_heap (below_alloc (Below.refl _ _) (.map #[] 0)) k13.1) (below_heap (below_alloc (Below.refl _ _) (.map #[] 0)) k13.2)
        have k14 := NM wy.heap.size hHeld.2.2.2.2 (by simp); refine hK.out _ _ ⟨(below_cell (below_alloc (Below.refl _ _) (.map #[] 0)) hHeld.1), (below_cell (below_alloc (Below.refl _ _) (.map #[] 0)) hHeld.2.1), (below_cell (below_alloc (Below.refl _ _) (.map #[] 0)) hHeld.2.2.1), (below_cell (below_alloc (Below.refl _ _) (.map #[] 0)) hHeld.2.2.2.1), (below_then hHeld.2.2.2.2 (below_alloc (Below.refl _ _) (.map #[] 0)))⟩ (fun hHeld => ?_); clear hK K; refine norm_ (a' := ?_) ?_ ?_; rotate_left; (· show Act.put _ (some 14) _ = _; simp only [pn_]; rfl); exact norm_ (by first | (simp only [putAll, Act.put, List.setIfInBounds_toArray, List.set_cons_zero, List.set_cons_succ]; done) | (simp only [putAll, Act.put, List.setIfInBounds_toArray, List.set_cons_zero, List.set_cons_succ]; rfl)) (hCont (S3, wy.heap.size, w5.heap.size, SM3) _ ⟨k16, k13, k14, ne, f13, (by dsimp only; omega), (by dsimp only; omega), hHeld⟩)
      · skip
        refine value_ (w1 := ?_) (v := ?_) (by rfl) rfl ?_ ?_; rotate_left 2; (· go_simp; constructor; (· rfl); (· rfl))
        replace k16 := below_heap (below_alloc (Below.refl _ _) (.map #[] 0)) k16
        have k14 := NM (w5.heap.size + 1) hHeld.2.2.2.2 (by simp); refine hK.out _ _ ⟨(below_cell (below_alloc (Below.refl _ _) (.map #[] 0)) hHeld.1), (below_cell (below_alloc (Below.refl _ _) (.map #[] 0)) hHeld.2.1), (below_cell (below_alloc (Below.refl _ _) (.map #[] 0)) hHeld.2.2.1), (below_cell (below_alloc (Below.refl _ _) (.map #[] 0)) hHeld.2.2.2.1), (below_then hHeld.2.2.2.2 (below_alloc (Below.refl _ _) (.map #[] 0)))⟩ (fun hHeld => ?_); clear hK K; refine norm_ (a' := ?_) ?_ ?_; rotate_left; (· show Act.put _ (some 14) _ = _; simp only [pn_]; rfl); refine one_ (i := 1) (N := some 13) (tf 9 31) rfl rfl (by kernel_rfl) (by decide) (fun K hK => ?_); refine goes_ Tryz.func32 (by kernel_rfl) rfl #[] (by rfl) rfl rfl (by simp only [List.map_toArray, List.map_cons, List.map_nil]) ?_; (with_reducible refine ((HN.out _)).mono ?_); rintro e' wy ⟨S3, SM3, rfl, kS, kM, zS, zM, by_⟩; refine ⟨_, rfl, ?_⟩; have f13 := And.intro (Nat.le_trans hHeld.2.2.2.2.size zS) (Nat.le_trans hHeld.2.2.2.2.size zM); have y13 : w5.heap.size ≤ wy.heap.size := Nat.le_trans hHeld.2.2.2.2.size by_.size
        have ne : (w5.heap.size + 1) ≠ SM3 := by have z := zM; simp [show ∀ W : World, W.drew.heap = W.heap from fun _ => rfl] at z; omega
        replace k16 := below_heap by_ k16
        replace k14 := below_heap by_ k14
        have k13 := And.intro kS kM; refine hK.out _ _ ⟨(below_cell by_ hHeld.1), (below_cell by_ hHeld.2.1), (below_cell by_ hHeld.2.2.1), (below_cell by_ hHeld.2.2.2.1), (below_then hHeld.2.2.2.2 by_)⟩ (fun hHeld => ?_); clear hK K; refine norm_ (a' := ?_) ?_ ?_; rotate_left; (· show Act.put _ (some 13) _ = _; simp only [pn_]; rfl); exact norm_ (by first | (simp only [putAll, Act.put, List.setIfInBounds_toArray, List.set_cons_zero, List.set_cons_succ]; done) | (simp only [putAll, Act.put, List.setIfInBounds_toArray, List.set_cons_zero, List.set_cons_succ]; rfl)) (hCont (S3, (w5.heap.size + 1), w5.heap.size, SM3) _ ⟨k16, k13, k14, ne, f13, (by dsimp only; omega), (by dsimp only; omega), hHeld⟩)
  rintro ⟨S3, M3, R3, SM3⟩ w6 ⟨k16, k13, k14, ne, f13, f14, f16, hHeld⟩; have b6 := hHeld.2.2.2.2; refine norm_ (a' := ?_) ?_ ?_; rotate_left; (· simp only [putAll, Act.put, List.setIfInBounds_toArray, List.set_cons_zero, List.set_cons_succ]; rfl); refine pure_ (i := 5) (N := some 17) (v := ?_) (a' := ?_) (tf 9 63) rfl rfl (by kernel_rfl) (fun _ _ _ h => h) (Or.inl ⟨by rfl, ?_⟩) ?_ ?_; rotate_left; (· intro w'; go_simp; (with_reducible rfl)); rotate_left; (· simp only [pn_]; rfl); refine one_ (i := 6) (N := some 18) (tf 9 127) rfl rfl (by kernel_rfl) (by decide) (fun K hK => ?_); refine value_ (w1 := ?_) (v := ?_) (by rfl) rfl ?_ ?_; rotate_left 2; (· go_simp; constructor; (· rfl); (· rfl)); refine hK.out _ _ ⟨(below_cell (below_alloc (Below.refl _ _) (.cells #[.slice (some ⟨T, 0, none⟩) 1 c, .pointer (some ⟨S3, 0, none⟩), .map (some M3), .int .i64 0, .slice (some ⟨R3, 0, none⟩) 1 1] 95)) hHeld.1), (below_cell (below_alloc (Below.refl _ _) (.cells #[.slice (some ⟨T, 0, none⟩) 1 c, .pointer (some ⟨S3, 0, none⟩), .map (some M3), .int .i64 0, .slice (some ⟨R3, 0, none⟩) 1 1] 95)) hHeld.2.1), (below_cell (below_alloc (Below.refl _ _) (.cells #[.slice (some ⟨T, 0, none⟩) 1 c, .pointer (some ⟨S3, 0, none⟩), .map (some M3), .int .i64 0, .slice (some ⟨R3, 0, none⟩) 1 1] 95)) hHeld.2.2.1), (below_cell (below_alloc (Below.refl _ _) (.cells #[.slice (some ⟨T, 0, none⟩) 1 c, .pointer (some ⟨S3, 0, none⟩), .map (some M3), .int .i64 0, .slice (some ⟨R3, 0, none⟩) 1 1] 95)) hHeld.2.2.2.1), (below_then hHeld.2.2.2.2 (below_alloc (Below.refl _ _) (.cells #[.slice (some ⟨T, 0, none⟩) 1 c, .pointer (some ⟨S3, 0, none⟩), .map (some M3), .int .i64 0, .slice (some ⟨R3, 0, none⟩) 1 1] 95)))⟩ (fun hHeld => ?_); clear hK K; refine norm_ (a' := ?_) ?_ ?_; rotate_left; (· show Act.put _ (some 18) _ = _; simp only [pn_]; rfl); refine pure_ (i := 7) (N := some 2) (v := ?_) (a' := ?_) (tf 9 255) rfl rfl (by kernel_rfl) (fun _ _ _ h => h) (Or.inl ⟨by rfl, ?_⟩) ?_ ?_; rotate_left; (· intro w'; go_simp; (with_reducible rfl)); rotate_left; (· simp only [pn_]; rfl); refine pure_ (i := 8) (N := some 3) (v := ?_) (a' := ?_) (tf 9 511) rfl rfl (by kernel_rfl) (fun _ _ _ h => h) (Or.inl ⟨by rfl, ?_⟩) ?_ ?_; rotate_left; (· intro w'; go_simp; (with_reducible rfl)); rotate_left; (· simp only [pn_]; rfl); refine done_ (by kernel_rfl) ?_
  obtain ⟨L, hL⟩ : ∃ L, L = w6.heap.size := ⟨_, rfl⟩
  obtain ⟨w7, hw7⟩ : ∃ w7, w7 = w6.alloc (.cells #[.slice (some ⟨T, 0, none⟩) 1 c, .pointer (some ⟨S3, 0, none⟩), .map (some M3), .int .i64 0, .slice (some ⟨R3, 0, none⟩) 1 1] 95) := ⟨_, rfl⟩
  have b7 : Below w6.heap.size w6 w7 := by rw [hw7]; exact below_alloc (Below.refl _ _) _
  have c7 : w7.heap[L]? = some (.cells #[.slice (some ⟨T, 0, none⟩) 1 c, .pointer (some ⟨S3, 0, none⟩), .map (some M3), .int .i64 0, .slice (some ⟨R3, 0, none⟩) 1 1] 95 (0, 0)) := by rw [hw7, hL]; exact heap_alloc_new _ _
  dsimp only at ne f13 f14 f16 k13 k14 k16
  have z5 := BB.out.size
  have z6 := b6.size
  have FIN : w7.heap[L]? = some (.cells (ledC T c S3 M3 0 R3 1 1) 95 (0, 0)) ∧ w7.heap[R3]? = some (.cells st0 89 (0, 0)) ∧ w7.heap[S3]? = some (.cells (stoC SM3 0) 137 (0, 0)) ∧ w7.heap[SM3]? = some (.map #[] 0) ∧ w7.heap[M3]? = some (.map #[] 0) ∧ M3 ≠ SM3 ∧ (w.heap.size ≤ L ∧ w.heap.size ≤ R3 ∧ w.heap.size ≤ S3 ∧ w.heap.size ≤ SM3 ∧ w.heap.size ≤ M3) ∧ Below w.heap.size w w7 := ⟨c7, by rw [HD.out]; exact below_heap b7 k16, below_heap b7 k13.1, below_heap b7 k13.2, below_heap b7 k14, ne, by omega, below_then BB.out (below_then b6 b7)⟩
  have FF := hid FIN
  rw [← hw7, ← hL]
  clear hw7 hL b7 c7 FIN k16 k13 k14 ne f13 f14 f16 z5 z6 NR NM HN v0 v1 v2 v3 G0
  go_wp2
  go_ret2
  exact ⟨L, R3, S3, SM3, M3, rfl, FF.out⟩
theorem dnew_k {w : World} : Calls Tryz.prog 7 #[.slice none 0 0] w fun e w' => ∃ D : Nat, e = .returned (.pointer (some ⟨D, 0, none⟩)) ∧ w'.heap[D]? = some (.cells (dcells (.slice none 0 0) 0 0 false) 75 (0, 0)) ∧ w.heap.size ≤ D ∧ Below w.heap.size w w' := by
  have HC := hid (clone_nil (w := w))
  go_enter Tryz.func7, Tryz.ntmps7
  go_wp2_with fail
  refine HC.out.mono ?_
  rintro e w1 ⟨rfl, rfl⟩
  clear HC
  go_wp2
  go_ret
  exact ⟨w.heap.size, rfl, heap_alloc_new _ _, Nat.le_refl _, below_alloc (Below.refl _ _) _⟩
theorem wopen_k {w : World} {D : Nat} (h : w.heap[D]? = some (.cells (dcells (.slice none 0 0) 0 0 false) 75 (0, 0))) : Calls Tryz.prog 15 #[.pointer (some ⟨D, 0, none⟩)] w fun e w' => ∃ G : Nat, e = .returned (.tuple #[.pointer (some ⟨G, 0, none⟩), .slice none 0 0, .int .i64 0]) ∧ LogK w' D G none 0 ∧ w.heap.size ≤ G ∧ Below w.heap.size w w' := by
  have HC := hid (read_nil (cell_at h (i := 0) rfl))
  have HS := hid (scan_nil (w := w))
  have hD := hid h
  clear h
  go_enter Tryz.func15, Tryz.ntmps15
  go_wp2_with fail
  refine HC.out.mono ?_
  rintro e w1 ⟨rfl, rfl⟩
  clear HC
  go_wp2_with fail
  refine HS.out.mono ?_
  rintro e w1 ⟨rfl, rfl⟩
  clear HS
  go_wp2
  go_ret3
  have al := below_alloc (Below.refl _ w) (.cells #[.pointer (some ⟨D, 0, none⟩), .int .i64 0] 101)
  have g0 := heap_alloc_new w (.cells #[.pointer (some ⟨D, 0, none⟩), .int .i64 0] 101)
  have z := lt_of_block hD.out
  exact ⟨w.heap.size, rfl, ⟨⟨[], 0, 0, false⟩, 0, ⟨⟨none, 0, below_heap al hD.out, World.ownsRow_nil _ _ _ _, rfl, Nat.le_refl _, by decide, by simp⟩, g0, by omega, by simp⟩, rfl, by simp, by simp⟩, Nat.le_refl _, al⟩
structure NewK (w : World) (E L P Q G D S SM O T c R : Nat) : Prop where
  eng : w.heap[E]? = some (.cells (engS L P cli0 cli0 (.slice none 0 0) 0) 64 (0, 0))
  led : w.heap[L]? = some (.cells (ledC T c S O 0 R 1 1) 95 (0, 0))
  sta : StAt w R 1 1 none
  sto : w.heap[S]? = some (.cells (stoC SM 0) 137 (0, 0))
  smap : w.heap[SM]? = some (.map #[] 0)
  opn : w.heap[O]? = some (.map #[] 0)
  ap : O ≠ SM
  grp : w.heap[P]? = some (.cells (grpC L G Q 0 (.slice none 0 0) (.slice none 0 0) 0 (.slice none 0 0)) 113 (0, 0))
  que : w.heap[Q]? = some (.cells (quC 0 0 0 0 0 0) 160 (0, 0))
  log : LogK w D G none 0
theorem NewK.below {w w' : World} {E L P Q G D S SM O T c R : Nat} (h : NewK w E L P Q G D S SM O T c R) (hb : Below w.heap.size w w') : NewK w' E L P Q G D S SM O T c R :=
  ⟨below_heap hb h.eng, below_heap hb h.led, h.sta.below hb, below_heap hb h.sto, below_heap hb h.smap, below_heap hb h.opn, h.ap, below_heap hb h.grp, below_heap hb h.que, h.log.below hb⟩
theorem stat0 {w : World} {R : Nat} (h : w.heap[R]? = some (.cells st0 89 (0, 0))) : StAt w R 1 1 none := by
  have q1 : first0.size ≤ 1000 := by unfold first0; rw [dig_size]; omega
  have hd : st0 = #[.string first0, .string (dig [0]), .string (dig []), .pointer none] := rfl
  rw [hd] at h
  clear hd
  generalize first0 = d0 at *
  generalize dig [0] = d1 at *
  generalize dig [] = d2 at *
  exact ⟨[.string d0, .string d1, .string d2, .pointer none], d0, d1, d2, 0, ⟨rfl, Or.inr ⟨R, 1, _, rfl, Nat.zero_le _, h, Nat.le_refl _, by unfold maxLen; omega, rfl, rfl⟩⟩, rfl, by omega, rfl, rfl, rfl, rfl, q1, by intro u hu; simp at hu; rcases hu with rfl | rfl | rfl | rfl <;> rfl⟩
set_option maxRecDepth 100000 in
set_option maxHeartbeats 3200000 in
theorem open_k {w : World} (hT : Table w) {T C c D : Nat} (h : TabAt w T C) (hD : w.heap[D]? = some (.cells (dcells (.slice none 0 0) 0 0 false) 75 (0, 0))) : Calls Tryz.prog 5 #[.slice (some ⟨T, 0, none⟩) 1 c, .pointer (some ⟨D, 0, none⟩)] w fun e w' =>
    ∃ E L P Q G S SM O R : Nat, e = .returned (.tuple #[.pointer (some ⟨E, 0, none⟩), .int .i64 0]) ∧ NewK w' E L P Q G D S SM O T c R ∧ (w.heap.size ≤ E ∧ w.heap.size ≤ L ∧ w.heap.size ≤ P ∧ w.heap.size ≤ Q ∧ w.heap.size ≤ G ∧ w.heap.size ≤ S ∧ w.heap.size ≤ SM ∧ w.heap.size ≤ O ∧ w.heap.size ≤ R) ∧ Below w.heap.size w w' := by
  have HL := hid (lnew_k (c := c) hT h)
  have HD := hid hD
  clear hT h hD
  go_enter Tryz.func5, Tryz.ntmps5
  go_wp2_with fail
  refine HL.out.mono ?_
  rintro e w1 ⟨L, R, S, SM, O, rfl, l1, r1, s1, m1, o1, ap, zz, b1⟩
  have HW := hid (wopen_k (below_heap b1 HD.out))
  have BB := hid b1
  have LS := hid (And.intro l1 (And.intro (stat0 r1) (And.intro s1 (And.intro m1 (And.intro o1 (And.intro ap zz))))))
  clear HL b1 l1 r1 s1 m1 o1 ap zz
  go_wp2_with fail
  refine HW.out.mono ?_
  rintro e w2 ⟨G, rfl, lk, zG, b2⟩
  have LK := hid (And.intro lk (Nat.le_trans BB.out.size zG))
  have B2 := hid b2
  replace BB := hid (below_then BB.out b2)
  clear HW b2 lk zG
  have HR := hid (replay_nil (w := w2) (v := .pointer (some ⟨L, 0, none⟩)))
  go_wp2_with fail
  refine HR.out.mono ?_
  rintro e w3 ⟨rfl, rfl⟩
  clear HR
  have HG := hid (gnew_k (w := w2) (L := L) (lg := G))
  go_wp2_with fail
  refine HG.out.mono ?_
  rintro e w4 ⟨P, Q, rfl, p4, q4, zP, zQ, b4⟩
  have PQ := hid (And.intro p4 (And.intro q4 (And.intro (Nat.le_trans BB.out.size zP) (Nat.le_trans BB.out.size zQ))))
  have B4 := hid b4
  replace BB := hid (below_then BB.out b4)
  clear HG b4 p4 q4 zP zQ
  obtain ⟨w5, hw5⟩ : ∃ w5, w5 = w4.alloc (.cells ((Tryz.zeroCells64.setIfInBounds 0 (.pointer (some ⟨L, 0, none⟩))).setIfInBounds 1 (.pointer (some ⟨P, 0, none⟩))) 64) := ⟨_, rfl⟩
  obtain ⟨E, hE⟩ : ∃ E, E = w4.heap.size := ⟨_, rfl⟩
  have b5 : Below w4.heap.size w4 w5 := by rw [hw5]; exact below_alloc (Below.refl _ _) _
  have c5 : w5.heap[E]? = some (.cells (engS L P cli0 cli0 (.slice none 0 0) 0) 64 (0, 0)) := by rw [hw5, hE]; exact heap_alloc_new _ _
  have b25 := below_then B4.out b5
  have b15 := below_then B2.out b25
  obtain ⟨l1, r1, s1, m1, o1, ap, z1, z2, z3, z4, z5⟩ := LS.out
  have FIN := hid (And.intro (show NewK w5 E L P Q G D S SM O T c R from ⟨c5, below_heap b15 l1, r1.below b15, below_heap b15 s1, below_heap b15 m1, below_heap b15 o1, ap, below_heap b5 PQ.out.1, below_heap b5 PQ.out.2.1, LK.out.1.below b25⟩) (And.intro (show w.heap.size ≤ E ∧ w.heap.size ≤ L ∧ w.heap.size ≤ P ∧ w.heap.size ≤ Q ∧ w.heap.size ≤ G ∧ w.heap.size ≤ S ∧ w.heap.size ≤ SM ∧ w.heap.size ≤ O ∧ w.heap.size ≤ R by have := BB.out.size; have := PQ.out.2.2; have := LK.out.2; omega) (below_then BB.out b5)))
  have HE := hid (And.intro hE hw5)
  clear hw5 hE b5 c5 LS BB PQ LK B2 B4 b25 b15 l1 r1 s1 m1 o1 ap z1 z2 z3 z4 z5
  go_wp2
  rw [← HE.out.1, ← HE.out.2]
  go_ret2
  exact ⟨E, L, P, Q, G, S, SM, O, R, rfl, FIN.out⟩
theorem hi_byte {b : Nat} (hb : b < 256) : ∃ u : UInt8, UInt8.ofNat ((b + 300) / 256) = u ∧ (u < 0) = False ∧ (0 < u) = True ∧ (u == 0) = false ∧ (0 : UInt8) ≠ u := by
  have h : (b + 300) / 256 = 1 ∨ (b + 300) / 256 = 2 := by omega
  rcases h with h | h
  · exact ⟨1, by rw [h]; rfl, by decide, by decide, by decide, by decide⟩
  · exact ⟨2, by rw [h]; rfl, by decide, by decide, by decide, by decide⟩
theorem keys_behind {a b : Nat} (ha : a < 256) (hb : b < 256) : Behind (keyS (b + 300)) (keyS a) := by
  obtain ⟨u, hu, u1, u2, u3, u4⟩ := hi_byte hb
  have h0 : a / 256 = 0 := by omega
  constructor
  · rw [ByteArray.toList_eq, ByteArray.toList_eq, keyS_list, keyS_list]
    unfold keyN
    rw [hu, h0]
    simp only [Op.bytesLess]
    simp [u1, u3]
  · rw [ByteArray.toList_eq, ByteArray.toList_eq, keyS_list, keyS_list]
    unfold keyN
    rw [hu, h0]
    simp
    intro h
    exact absurd h.symm u4
theorem key_behind (n : Nat) : Behind (keyS n) ⟨#[]⟩ := by
  constructor
  · rw [ByteArray.toList_eq, ByteArray.toList_eq]
    rfl
  · rw [ByteArray.toList_eq, ByteArray.toList_eq, keyS_list]
    rfl
theorem keys_le {a b : Nat} (ha : a < 256) (hb : b < 256) : (keyS a).data.toList ≤ (keyS (b + 300)).data.toList := by
  obtain ⟨u, hu, u1, u2, u3, u4⟩ := hi_byte hb
  have h0 : a / 256 = 0 := by omega
  rw [keyS_list, keyS_list]
  unfold keyN
  rw [hu, h0]
  intro h
  simp only [List.cons_lt_cons_iff] at h
  simp [u1, Ne.symm u4] at h
def en1 (T : Nat) : MapEntry := ⟨.int .i64 1, .pointer (some ⟨T, 0, none⟩), 0⟩
def en2 (T : Nat) : MapEntry := ⟨.int .i64 2, .pointer (some ⟨T, 0, none⟩), 1⟩
def c1w : Cli := ⟨1, 6, true, 0, false⟩
def c2w : Cli := ⟨2, 7, true, 0, false⟩
def c2t : Cli := ⟨2, 0, false, 0, false⟩
def tx1 (x : Fx) (T M : Nat) (r : Value) : TxR := ⟨1, T, M, keyS x.na, r, rowN x.na⟩
def tx2 (x : Fx) (T M : Nat) (r : Value) : TxR := ⟨2, T, M, keyS (x.nb + 300), r, rowN (x.nb + 300)⟩
def two {α : Type} (a b : α) : Nat → α
  | 0 => a
  | _ => b
def three {α : Type} (a b c : α) : Nat → α
  | 0 => a
  | 1 => b
  | _ => c
def runT (x : Fx) (T1 M1 T2 M2 : Nat) (r1 r2 : Value) : Bt where
  x := x
  n := 2
  N := 1
  ns := 1
  q := 0
  cl := 2
  m := 0
  R := x.R
  rc := x.rc
  hn := 8
  tx := two (tx1 x T1 M1 r1) (tx2 x T2 M2 r2)
  ss := #[]
  Es := three #[en1 T1, en2 T2] #[en2 T2] #[]
  next := 2
  now := 8
  tv := none
  r := none
  cs := three (c1w, c2w) (wokeC, c2w) (wokeC, wokeC)
  qb := quC 1 2 0 0 2 0
  TF := fun _ _ _ => True
def runA (x : Fx) (T1 M1 T2 : Nat) (r1 : Value) : Bt where
  x := x
  n := 1
  N := 1
  ns := 1
  q := 0
  cl := 2
  m := 0
  R := x.R
  rc := x.rc
  hn := 7
  tx := fun _ => tx1 x T1 M1 r1
  ss := #[]
  Es := two #[en1 T1, en2 T2] #[en2 T2]
  next := 2
  now := 7
  tv := none
  r := none
  cs := two (c1w, c2t) (wokeC, c2t)
  qb := quC 1 0 0 0 1 0
  TF := fun lo w v => LeafK w (.pointer v) (keyS x.na) (rowN x.na) lo
def runB (x : Fx) (T2 M2 : Nat) (r2 : Value) (C R rc : Nat) (tv : Option Addr) (r : Option Nat) : Bt where
  x := x
  n := 1
  N := 2
  ns := 2
  q := 1
  cl := 2
  m := 1
  R := R
  rc := rc
  hn := 8
  tx := fun _ => tx2 x T2 M2 r2
  ss := #[entS (keyS x.na) (.pointer (some ⟨C, 0, none⟩)) 0]
  Es := two #[en2 T2] #[]
  next := 2
  now := 14
  tv := tv
  r := r
  cs := two (wokeC, c2w) (wokeC, wokeC)
  qb := quC 1 2 0 0 2 0
  TF := fun _ _ _ => True
theorem one_j {P : Nat → Prop} (h0 : P 0) : ∀ j, j < 1 → P j
  | 0, _ => h0
theorem two_j {P : Nat → Prop} (h0 : P 0) (h1 : P 1) : ∀ j, j < 2 → P j
  | 0, _ => h0
  | 1, _ => h1
theorem one_m {P : Nat → Nat → Prop} : ∀ j, j < 1 → ∀ m, m < j → P j m := fun j hj m hm => absurd hm (by omega)
theorem two_m {P : Nat → Nat → Prop} (h : P 1 0) : ∀ j, j < 2 → ∀ m, m < j → P j m
  | 0, _, m, hm => absurd hm (by omega)
  | 1, _, 0, _ => h
theorem erase_12 (T1 T2 : Nat) : (#[en2 T2] : Array MapEntry) = (#[en1 T1, en2 T2] : Array MapEntry).eraseIdxIfInBounds 0 := by simp [Array.eraseIdxIfInBounds]
theorem erase_2 (T2 : Nat) : (#[] : Array MapEntry) = (#[en2 T2] : Array MapEntry).eraseIdxIfInBounds 0 := by simp [Array.eraseIdxIfInBounds]
theorem k_size (n : Nat) : 1 ≤ (keyS n).size ∧ (keyS n).size ≤ 1000 := by rw [keyS_size]; omega
theorem r_len (n : Nat) : (rowN n).length ≤ 1000 := by rw [rowN_length]; omega
theorem miss_none (k : ByteArray) : Miss k #[] := fun e h => by simp at h
theorem okT {x : Fx} (lo : x.Low) (T1 M1 T2 M2 : Nat) (r1 r2 : Value) : (runT x T1 M1 T2 M2 r1 r2).Ok where
  lo := lo
  lowR := lo.r
  lowr := fun _ h => by cases h
  n1 := (by omega : 1 ≤ 2 ∧ 2 ≤ 2)
  hN := (by omega : 1 ≤ 1 ∧ 1 ≤ 1000)
  h4 := (by omega : 1 ≤ 4)
  hm := (by omega : 0 ≤ 9)
  hh := (by omega : 8 ≤ 90)
  hnow := (by omega : (0 : Int) ≤ 8 ∧ (8 : Int) ≤ 900)
  hof := two_j ⟨0, rfl⟩ ⟨1, rfl⟩
  hdel := two_j ⟨0, _, rfl, erase_12 T1 T2⟩ ⟨0, _, rfl, erase_2 T2⟩
  miss := two_j (miss_none _) (miss_none _)
  hdi := two_m (by show (2 : Int) ≠ 1; decide)
  hk := two_m (Ne.symm (keys_ne lo.ha lo.hb))
  keys := two_j (k_size _) (k_size _)
  lens := two_j (r_len _) (r_len _)
  beh := two_j (key_behind _) (keys_behind lo.ha lo.hb)
  be2 := fun _ => keys_behind lo.ha lo.hb
theorem okA {x : Fx} (lo : x.Low) (T1 M1 T2 : Nat) (r1 : Value) : (runA x T1 M1 T2 r1).Ok where
  lo := lo
  lowR := lo.r
  lowr := fun _ h => by cases h
  n1 := (by omega : 1 ≤ 1 ∧ 1 ≤ 2)
  hN := (by omega : 1 ≤ 1 ∧ 1 ≤ 1000)
  h4 := (by omega : 1 ≤ 4)
  hm := (by omega : 0 ≤ 9)
  hh := (by omega : 7 ≤ 90)
  hnow := (by omega : (0 : Int) ≤ 7 ∧ (7 : Int) ≤ 900)
  hof := one_j ⟨0, rfl⟩
  hdel := one_j ⟨0, _, rfl, erase_12 T1 T2⟩
  miss := one_j (miss_none _)
  hdi := one_m
  hk := one_m
  keys := one_j (k_size _)
  lens := one_j (r_len _)
  beh := one_j (key_behind _)
  be2 := fun h => absurd (show 1 = 2 from h) (by omega)
theorem okB {x : Fx} (lo : x.Low) (T2 M2 : Nat) (r2 : Value) (C R rc : Nat) (tv : Option Addr) (r : Option Nat) (hR : x.B0 ≤ R) (hr : ∀ k, r = some k → x.B0 ≤ k) : (runB x T2 M2 r2 C R rc tv r).Ok where
  lo := lo
  lowR := hR
  lowr := hr
  n1 := (by omega : 1 ≤ 1 ∧ 1 ≤ 2)
  hN := (by omega : 1 ≤ 2 ∧ 2 ≤ 1000)
  h4 := (by omega : 2 ≤ 4)
  hm := (by omega : 1 ≤ 9)
  hh := (by omega : 8 ≤ 90)
  hnow := (by omega : (0 : Int) ≤ 14 ∧ (14 : Int) ≤ 900)
  hof := one_j ⟨0, rfl⟩
  hdel := one_j ⟨0, _, rfl, erase_2 T2⟩
  miss := one_j (fun e h => by
    obtain rfl : e = entS (keyS x.na) (.pointer (some ⟨C, 0, none⟩)) 0 := by simpa [runB] using h
    exact ⟨_, _, _, rfl, Ne.symm (keys_ne lo.ha lo.hb)⟩)
  hdi := one_m
  hk := one_m
  keys := one_j (k_size _)
  lens := one_j (r_len _)
  beh := one_j (key_behind _)
  be2 := fun h => absurd (show 1 = 2 from h) (by omega)
theorem wkT (x : Fx) (T1 M1 T2 M2 : Nat) (r1 r2 : Value) : (runT x T1 M1 T2 M2 r1 r2).Wk where
  wake := two_j (fun w hv now hE hH => wake_0 (i := 6) hE rfl rfl rfl (by show 6 < 8; decide) hH (by show 8 ≤ 100; decide) (Or.inr (by show (2 : Int) ≠ 1; decide))) (fun w hv now hE hH => wake_1 (i := 7) hE rfl rfl rfl (by show 7 < 8; decide) hH (by show 8 ≤ 100; decide) (Or.inl rfl))
  wait := two_j (Or.inl rfl) (Or.inr ⟨rfl, rfl⟩)
  done := ⟨rfl, rfl⟩
theorem wkA (x : Fx) (T1 M1 T2 : Nat) (r1 : Value) : (runA x T1 M1 T2 r1).Wk where
  wake := one_j (fun w hv now hE hH => wake_0 (i := 6) hE rfl rfl rfl (by show 6 < 7; decide) hH (by show 7 ≤ 100; decide) (Or.inl rfl))
  wait := one_j (Or.inl rfl)
  done := ⟨rfl, rfl⟩
theorem wkB (x : Fx) (T2 M2 : Nat) (r2 : Value) (C R rc : Nat) (tv : Option Addr) (r : Option Nat) : (runB x T2 M2 r2 C R rc tv r).Wk where
  wake := one_j (fun w hv now hE hH => wake_1 (i := 7) hE rfl rfl rfl (by show 7 < 8; decide) hH (by show 8 ≤ 100; decide) (Or.inl rfl))
  wait := one_j (Or.inr ⟨rfl, rfl⟩)
  done := ⟨rfl, rfl⟩
theorem ptT (x : Fx) (T1 M1 T2 M2 : Nat) (r1 r2 : Value) : (runT x T1 M1 T2 M2 r1 r2).Pts (two 0 1) (two 6 7) where
  at_ := two_j ⟨by show 0 < 8; decide, rfl, by show 6 < 8; decide⟩ ⟨by show 1 < 8; decide, rfl, by show 7 < 8; decide⟩
  idx := two_j (fun w1 K hv now hE hK => idx_0 hE hK rfl rfl) (fun w1 K hv now hE hK => idx_1 hE hK (Or.inr (by show (1 : Int) ≠ 2; decide)) rfl rfl)
theorem ptA (x : Fx) (T1 M1 T2 : Nat) (r1 : Value) : (runA x T1 M1 T2 r1).Pts (fun _ => 0) (fun _ => 6) where
  at_ := one_j ⟨by show 0 < 8; decide, rfl, by show 6 < 7; decide⟩
  idx := one_j (fun w1 K hv now hE hK => idx_0 hE hK rfl rfl)
theorem ptB (x : Fx) (T2 M2 : Nat) (r2 : Value) (C R rc : Nat) (tv : Option Addr) (r : Option Nat) : (runB x T2 M2 r2 C R rc tv r).Pts (fun _ => 1) (fun _ => 7) where
  at_ := one_j ⟨by show 1 < 8; decide, rfl, by show 7 < 8; decide⟩
  idx := one_j (fun w1 K hv now hE hK => idx_1 hE hK (Or.inl rfl) rfl rfl)
end Go.Proofs.YtnidgljkbmceaaaGreatDoor
