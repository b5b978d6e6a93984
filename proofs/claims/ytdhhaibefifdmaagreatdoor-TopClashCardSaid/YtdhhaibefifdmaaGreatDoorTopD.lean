/- What awake runs through: an engine is asked for its digest. -/
import Derived.Test.YtdhhaibefifdmaaGreatDoorT1
set_option linter.unusedVariables false
set_option linter.unusedSimpArgs false
namespace Go.Proofs.YtdhhaibefifdmaaGreatDoor
open Go.RowKit PrintLast

theorem EngAt.keeps {S : Nat → Prop} {w w' : World} {E L P R : Nat} {h : Value} {n : Int} (H : EngAt w E L P R h n) (hk : Keeps S w w') (hE : ¬ S E) (hL : ¬ S L) (hP : ¬ S P) (hR : ¬ S R) : EngAt w' E L P R h n :=
  ⟨hk.heap H.eng hE, hk.cell H.led hL, hk.heap H.sts hR, hk.cell H.phase hP⟩
/-- What is not the engine's own. -/
structure Apart (w : World) (E L P R : Nat) : Prop where
  lt : E < w.heap.size ∧ L < w.heap.size ∧ P < w.heap.size ∧ R < w.heap.size
  ne : L ≠ E ∧ P ≠ E ∧ R ≠ E
theorem EngAt.new {w w' : World} {E L P R g : Nat} {h : Value} {n : Int} (H : EngAt w' E L P R h n) (ha : Apart w E L P R) (hg : w.heap.size ≤ g) {w'' : World} (hk : Keeps (fun k => k = g) w' w'') : EngAt w'' E L P R h n :=
  H.keeps hk (by have := ha.lt; omega) (by have := ha.lt; omega) (by have := ha.lt; omega) (by have := ha.lt; omega)
theorem EngAt.set75 {w : World} {E L P R : Nat} {h : Value} {n m : Int} (H : EngAt w E L P R h n) (ha : L ≠ E ∧ P ≠ E ∧ R ≠ E) : EngAt (w.setCell ⟨E, 75, none⟩ (.int .i64 m)) E L P R h m := by
  have hk := (Keeps.refl (fun k => k = E) w).setCell (p := ⟨E, 75, none⟩) (fun _ => rfl) (.int .i64 m)
  exact ⟨heap_set H.eng, hk.cell H.led ha.1, hk.heap H.sts ha.2.2, hk.cell H.phase ha.2.1⟩
theorem EngAt.set74 {w : World} {E L P R : Nat} {h h' : Value} {n : Int} (H : EngAt w E L P R h n) (ha : L ≠ E ∧ P ≠ E ∧ R ≠ E) : EngAt (w.setCell ⟨E, 74, none⟩ h') E L P R h' n := by
  have hk := (Keeps.refl (fun k => k = E) w).setCell (p := ⟨E, 74, none⟩) (fun _ => rfl) h'
  exact ⟨heap_set H.eng, hk.cell H.led ha.1, hk.heap H.sts ha.2.2, hk.cell H.phase ha.2.1⟩
theorem news_of_block {w : World} {g : Nat} {l : List Value} {t : TypeId} (h : w.heap[g]? = some (.cells l.toArray t (0, 0))) : ∀ ad, some (⟨g, 0, none⟩ : Addr) = some ad → ∀ (j : Nat) u, l[j]? = some u → w.cell? (ad.add j) = some u := by
  intro ad e j u hu
  cases e
  rw [add_plain]
  exact cell_at h (by simpa using hu)
theorem infEntry : (Tryz.prog.info? 91).map (fun i => (i.zero, i.size, i.bytes)) = some (some (.agg #[.int .i64 0, .int .u8 0, .int .i64 0, .slice none 0 0, .string ⟨#[]⟩, .int .i64 0, .int .i64 0, .bool false, .slice none 0 0, .slice none 0 0, .slice none 0 0, .int .i64 0, .int .i64 0, .int .i64 0, .int .i64 0]), 15, 192) := by kernel_rfl
set_option maxRecDepth 100000 in
set_option maxHeartbeats 12800000 in
theorem do_ask {w : World} {E L P R : Nat} (H : EngAt w E L P R (.slice none 0 0) 0) (HA : Apart w E L P R) : Calls Tryz.prog 12 #[.pointer (some ⟨E, 0, none⟩), .int .i64 3, askV] w fun e w' =>
    ∃ (g c : Nat) (h : Value), e = .returned (.tuple #[toldV g c, .bool true]) ∧ w.heap.size ≤ g ∧ w'.cell? ⟨g, 0, none⟩ = some (.string first0) ∧ EngAt w' E L P R h 1 ∧ Keeps (fun k => k = E) w w' := by
  have AP := hid HA
  obtain ⟨S, hS⟩ : ∃ S, S = w.heap.size := ⟨_, rfl⟩
  obtain ⟨S1, hS1⟩ : ∃ S1, S1 = S + 1 := ⟨_, rfl⟩
  obtain ⟨w1, hw1⟩ : ∃ w1, w1 = (w.alloc (.cells #[.int .u8 8, .int .i64 0, .slice none 0 0, .string ⟨#[]⟩, .int .i64 0] 48)).alloc (.cells #[.int .i64 0, .bool false, .slice none 0 0, .slice none 0 0, .slice none 0 0] 43) := ⟨_, rfl⟩
  have b1 : Below w.heap.size w w1 := by rw [hw1]; go_grown
  have g1 : w1.heap[S1]? = some (.cells #[.int .i64 0, .bool false, .slice none 0 0, .slice none 0 0, .slice none 0 0] 43 (0, 0)) := by
    rw [hw1, hS1, hS]
    have := heap_alloc_new (w.alloc (.cells #[.int .u8 8, .int .i64 0, .slice none 0 0, .string ⟨#[]⟩, .int .i64 0] 48)) (.cells #[.int .i64 0, .bool false, .slice none 0 0, .slice none 0 0, .slice none 0 0] 43)
    rw [show (w.alloc (.cells #[.int .u8 8, .int .i64 0, .slice none 0 0, .string ⟨#[]⟩, .int .i64 0] 48)).heap.size = w.heap.size + 1 by simp] at this
    exact this
  have g0 : w1.heap[S]? = some (.cells #[.int .u8 8, .int .i64 0, .slice none 0 0, .string ⟨#[]⟩, .int .i64 0] 48 (0, 0)) := by
    rw [hw1, hS]; exact below_heap (below_alloc (Below.refl _ _) _) (heap_alloc_new _ _)
  have HO0 := of_any (w := w1) (E := E) (c := 3) (by omega)
  rw [show ((3 : Nat) : Int) = 3 from rfl, show 2 + 3 * 9 = 29 from rfl] at HO0
  have HO := hid HO0
  have H1 := H.below b1
  have EE := hid H1
  have G0 := hid g0
  have G1 := hid g1
  have KP := hid (Keeps.of_below (S := fun k => k = E) b1)
  have HW := hid hw1
  have HS := hid (show S1 = w.heap.size + 1 by rw [hS1, hS])
  have HS0 := hid hS
  have k31 := cell_at H1.eng (i := 31) rfl
  have k75 := cell_at H1.eng (i := 75) (v := .int .i64 0) rfl
  have f75 := free_at H1.eng 75
  clear H HA b1 hw1 hS hS1 g0 g1 HO0 H1
  unfold askV
  go_enter Tryz.func12, Tryz.ntmps12
  go_upto_region 1 with fail
  rw [← HS.out, ← HS0.out, ← HW.out]
  go_wp2_with fail
  refine HO.out.mono ?_
  rintro e w2 ⟨rfl, rfl⟩
  clear HO
  obtain ⟨w3, hw3⟩ : ∃ w3, w3 = w1.setCell ⟨E, 75, none⟩ (.int .i64 1) := ⟨_, rfl⟩
  have SN : S1 ≠ E ∧ S ≠ E := by have := HS.out; have := HS0.out; have := AP.out.lt; omega
  have hk3 : Keeps (fun k => k = E) w1 w3 := by rw [hw3]; exact (Keeps.refl (fun k => k = E) w1).setCell (p := ⟨E, 75, none⟩) (fun _ => rfl) _
  have E3 := hid (show EngAt w3 E L P R (.slice none 0 0) 1 by rw [hw3]; exact EE.out.set75 AP.out.ne)
  replace G0 := hid (hk3.heap G0.out SN.2)
  replace G1 := hid (hk3.heap G1.out SN.1)
  replace KP := hid (KP.out.then hk3 (fun _ _ e => e))
  have SZ3 := hid KP.out.size
  have HN := hid (answer_one (y := .pointer (some ⟨E, 29, none⟩)) E3.out)
  have HW3 := hid hw3
  have SZ := hid SN
  clear EE hk3 hw3 SN
  unfold askV at HN
  have k0 := hid (cell_at G0.out (i := 0) rfl)
  go_upto_region 9 with fail
  rw [← HW3.out]
  have c0 := cell_at G0.out (i := 0) rfl
  have c1 := cell_at G0.out (i := 1) rfl
  have c2 := cell_at G0.out (i := 2) rfl
  have c3 := cell_at G0.out (i := 3) rfl
  have c4 := cell_at G0.out (i := 4) rfl
  clear k0 k31 k75 f75
  go_wp2_with fail
  refine HN.out.mono ?_
  rintro e w4 ⟨g, c, rfl, gS, cg, b4⟩
  replace G0 := hid (below_heap b4 G0.out)
  replace G1 := hid (below_heap b4 G1.out)
  replace E3 := hid (E3.out.below b4)
  replace KP := hid (KP.out.below b4)
  have GS := hid (And.intro (Nat.le_trans SZ3.out gS) (World.block_lt_of_cell? _ _ cg))
  have CG := hid cg
  clear HN gS cg b4 HW3 HW c0 c1 c2 c3 c4
  unfold toldV
  go_upto_region 10 with fail
  obtain ⟨S9, hS9⟩ : ∃ S9, S9 = w4.heap.size := ⟨_, rfl⟩
  have al := below_alloc (Below.refl _ w4) (.cells #[.int .i64 0, .bool false, .slice none 0 0, .slice (some ⟨g, 0, none⟩) 1 c, .slice none 0 0] 43)
  have g9 := heap_alloc_new w4 (.cells #[.int .i64 0, .bool false, .slice none 0 0, .slice (some ⟨g, 0, none⟩) 1 c, .slice none 0 0] 43)
  rw [← hS9] at g9
  rw [← hS9]
  have N9 := hid (show S9 ≠ E ∧ S9 ≠ S ∧ S9 ≠ S1 ∧ S9 ≠ g ∧ w.heap.size ≤ S9 by have := KP.out.size; have := lt_of_block G1.out; have := lt_of_block G0.out; have := GS.out.2; have := AP.out.lt; omega)
  have G9 := hid g9
  replace G0 := hid (below_heap al G0.out)
  replace G1 := hid (below_heap al G1.out)
  replace E3 := hid (E3.out.below al)
  replace KP := hid (KP.out.below al)
  replace CG := hid (below_cell al CG.out)
  clear g9 hS9 SZ3
  generalize w4.alloc (.cells #[.int .i64 0, .bool false, .slice none 0 0, .slice (some ⟨g, 0, none⟩) 1 c, .slice none 0 0] 43) = w5 at *
  have c0 := cell_at G0.out (i := 0) rfl
  have c1 := cell_at G0.out (i := 1) rfl
  have c2 := cell_at G0.out (i := 2) rfl
  have c3 := cell_at G0.out (i := 3) rfl
  have c4 := cell_at G0.out (i := 4) rfl
  have d0 := cell_at G9.out (i := 0) rfl
  have d1 := cell_at G9.out (i := 1) rfl
  have d2 := cell_at G9.out (i := 2) rfl
  have d3 := cell_at G9.out (i := 3) rfl
  have d4 := cell_at G9.out (i := 4) rfl
  have k75 := cell_at E3.out.eng (i := 75) (v := .int .i64 1) rfl
  have HCP : Hid (∀ w' : World, Calls Tryz.prog 27 #[.agg #[.int .u8 8, .int .i64 0, .slice none 0 0, .string ⟨#[]⟩, .int .i64 0]] w' fun e w'' => e = .returned (.agg #[.int .u8 8, .int .i64 0, .slice none 0 0, .string ⟨#[]⟩, .int .i64 0]) ∧ Below w'.heap.size w' w'') := hid (fun w' => copied_any)
  have NR : ∀ {w1 : World} (g : Nat), Below w5.heap.size w5 w1 → w1.heap.size = g → (w1.alloc (.cells #[.int .i64 0, .int .u8 0, .int .i64 0, .slice none 0 0, .string ⟨#[]⟩, .int .i64 0, .int .i64 0, .bool false, .slice none 0 0, .slice none 0 0, .slice none 0 0, .int .i64 0, .int .i64 0, .int .i64 0, .int .i64 0] 91)).heap[g]? = some (.cells #[.int .i64 0, .int .u8 0, .int .i64 0, .slice none 0 0, .string ⟨#[]⟩, .int .i64 0, .int .i64 0, .bool false, .slice none 0 0, .slice none 0 0, .slice none 0 0, .int .i64 0, .int .i64 0, .int .i64 0, .int .i64 0] 91 (0, 0)) := fun g _ e => by subst e; exact heap_alloc_new _ _
  go_wp2
  refine start_ (n := 11) (S := fun w' => w'.cell? ⟨S, 0, none⟩ = some (.int .u8 8) ∧ w'.cell? ⟨S, 1, none⟩ = some (.int .i64 0) ∧ w'.cell? ⟨S, 2, none⟩ = some (.slice none 0 0) ∧ w'.cell? ⟨S, 3, none⟩ = some (.string ⟨#[]⟩) ∧ w'.cell? ⟨S, 4, none⟩ = some (.int .i64 0) ∧ w'.cell? ⟨S9, 0, none⟩ = some (.int .i64 0) ∧ w'.cell? ⟨S9, 1, none⟩ = some (.bool false) ∧ w'.cell? ⟨S9, 2, none⟩ = some (.slice none 0 0) ∧ w'.cell? ⟨S9, 3, none⟩ = some (.slice (some ⟨g, 0, none⟩) 1 c) ∧ w'.cell? ⟨S9, 4, none⟩ = some (.slice none 0 0) ∧ w'.cell? ⟨E, 75, none⟩ = some (.int .i64 1) ∧ Below w5.heap.size w5 w') (ds := [10]) #[false, false, false, false, false, false, false, false, false, false, false] (by kernel_rfl) rfl rfl ⟨c0, c1, c2, c3, c4, d0, d1, d2, d3, d4, k75, (Below.refl w5.heap.size w5).drew⟩ (fun hHeld => ?_)
  refine pure_ (i := 0) (N := some 43) (v := ?_) (a' := ?_) #[true, false, false, false, false, false, false, false, false, false, false] rfl rfl (by kernel_rfl) (fun _ _ _ h => h) (Or.inl ⟨by rfl, ?_⟩) ?_ ?_
  rotate_left
  · intro w'
    go_simp
    with_reducible rfl
  rotate_left
  · simp only [Act.put, List.setIfInBounds_toArray, List.set_cons_zero, List.set_cons_succ, i64_w, i32_w]
    rfl
  refine pure_ (i := 4) (N := some 47) (v := ?_) (a' := ?_) #[true, false, false, false, true, false, false, false, false, false, false] rfl rfl (by kernel_rfl) (fun _ _ _ h => h) (Or.inl ⟨by rfl, ?_⟩) ?_ ?_
  rotate_left
  · intro w'
    go_simp
    with_reducible rfl
  rotate_left
  · simp only [Act.put, List.setIfInBounds_toArray, List.set_cons_zero, List.set_cons_succ, i64_w, i32_w]
    rfl
  refine pure_ (i := 5) (N := some 48) (v := ?_) (a' := ?_) #[true, false, false, false, true, true, false, false, false, false, false] rfl rfl (by kernel_rfl) (fun _ _ _ h => h) (Or.inl ⟨by rfl, ?_⟩) ?_ ?_
  rotate_left
  · intro w'
    go_simp
    with_reducible rfl
  rotate_left
  · simp only [Act.put, List.setIfInBounds_toArray, List.set_cons_zero, List.set_cons_succ, i64_w, i32_w]
    rfl
  refine pure_ (i := 6) (N := some 49) (v := ?_) (a' := ?_) #[true, false, false, false, true, true, true, false, false, false, false] rfl rfl (by kernel_rfl) (fun _ _ _ h => h) (Or.inl ⟨by rfl, ?_⟩) ?_ ?_
  rotate_left
  · intro w'
    go_simp
    with_reducible rfl
  rotate_left
  · simp only [Act.put, List.setIfInBounds_toArray, List.set_cons_zero, List.set_cons_succ, i64_w, i32_w]
    rfl
  refine take_ (i := 1) (N := some 44) (v := ?_) (a' := ?_) #[true, true, false, false, true, true, true, false, false, false, false] rfl rfl (by kernel_rfl) (fun _ _ _ h => h) (Or.inl ⟨by rfl, ?_⟩) hHeld ?_ ?_
  rotate_left
  · rintro w' ⟨s0, s1, s2, s3, s4, s5, s6, s7, s8, s9, s10, s11⟩
    go_simp
    with_reducible rfl
  rotate_left
  · simp only [Act.put, List.setIfInBounds_toArray, List.set_cons_zero, List.set_cons_succ, i64_w, i32_w]
    rfl
  refine take_ (i := 3) (N := some 46) (v := ?_) (a' := ?_) #[true, true, false, true, true, true, true, false, false, false, false] rfl rfl (by kernel_rfl) (fun _ _ _ h => h) (Or.inl ⟨by rfl, ?_⟩) hHeld ?_ ?_
  rotate_left
  · rintro w' ⟨s0, s1, s2, s3, s4, s5, s6, s7, s8, s9, s10, s11⟩
    go_simp
    with_reducible rfl
  rotate_left
  · simp only [Act.put, List.setIfInBounds_toArray, List.set_cons_zero, List.set_cons_succ, i64_w, i32_w]
    rfl
  refine take_ (i := 7) (N := some 50) (v := ?_) (a' := ?_) #[true, true, false, true, true, true, true, true, false, false, false] rfl rfl (by kernel_rfl) (fun _ _ _ h => h) (Or.inl ⟨by rfl, ?_⟩) hHeld ?_ ?_
  rotate_left
  · rintro w' ⟨s0, s1, s2, s3, s4, s5, s6, s7, s8, s9, s10, s11⟩
    go_simp
    with_reducible rfl
  rotate_left
  · simp only [Act.put, List.setIfInBounds_toArray, List.set_cons_zero, List.set_cons_succ, i64_w, i32_w]
    rfl
  refine join_ (σ := Nat) 1 #[true, true, true, true, true, true, true, true, true, true, false] (fun s => [(45, .agg #[.int .u8 8, .int .i64 0, .slice none 0 0, .string ⟨#[]⟩, .int .i64 0]), (11, .pointer (some ⟨s, 0, none⟩)), (51, .agg #[.int .i64 3, .int .u8 8, .int .i64 0, .slice none 0 0, .string ⟨#[]⟩, .int .i64 0, .int .i64 0, .bool false, .slice none 0 0, .slice (some ⟨g, 0, none⟩) 1 c, .slice none 0 0, .int .i64 1, .int .i64 0, .int .i64 0, .int .i64 0])]) (fun s w' => w'.heap[s]? = some (.cells #[.int .i64 0, .int .u8 0, .int .i64 0, .slice none 0 0, .string ⟨#[]⟩, .int .i64 0, .int .i64 0, .bool false, .slice none 0 0, .slice none 0 0, .slice none 0 0, .int .i64 0, .int .i64 0, .int .i64 0, .int .i64 0] 91 (0, 0)) ∧ w5.heap.size ≤ s ∧ w'.cell? ⟨S, 0, none⟩ = some (.int .u8 8) ∧ w'.cell? ⟨S, 1, none⟩ = some (.int .i64 0) ∧ w'.cell? ⟨S, 2, none⟩ = some (.slice none 0 0) ∧ w'.cell? ⟨S, 3, none⟩ = some (.string ⟨#[]⟩) ∧ w'.cell? ⟨S, 4, none⟩ = some (.int .i64 0) ∧ w'.cell? ⟨S9, 0, none⟩ = some (.int .i64 0) ∧ w'.cell? ⟨S9, 1, none⟩ = some (.bool false) ∧ w'.cell? ⟨S9, 2, none⟩ = some (.slice none 0 0) ∧ w'.cell? ⟨S9, 3, none⟩ = some (.slice (some ⟨g, 0, none⟩) 1 c) ∧ w'.cell? ⟨S9, 4, none⟩ = some (.slice none 0 0) ∧ w'.cell? ⟨E, 75, none⟩ = some (.int .i64 1) ∧ Below w5.heap.size w5 w') ?_ ?_
  rotate_left
  · intro hCont
    refine two_ (i := 2) (j := 9) (Ni := some 45) (Nj := some 11) #[true, true, true, true, true, true, true, true, false, false, false] #[true, true, false, true, true, true, true, true, false, true, false] rfl rfl rfl rfl (by kernel_rfl) (by decide) (by decide) (fun K hK => ?_) (fun K hK => ?_)
    · skip
      refine goes_ Tryz.func27 (by kernel_rfl) rfl #[.agg #[.int .u8 8, .int .i64 0, .slice none 0 0, .string ⟨#[]⟩, .int .i64 0]] (by rfl) rfl rfl (by simp only [List.map_toArray, List.map_cons, List.map_nil]; rfl) ?_
      with_reducible refine ((HCP.out _)).mono ?_
      rintro e' wy ⟨rfl, by_⟩
      refine ⟨_, rfl, ?_⟩
      refine hK.out _ _ ⟨(below_cell by_ hHeld.1), (below_cell by_ hHeld.2.1), (below_cell by_ hHeld.2.2.1), (below_cell by_ hHeld.2.2.2.1), (below_cell by_ hHeld.2.2.2.2.1), (below_cell by_ hHeld.2.2.2.2.2.1), (below_cell by_ hHeld.2.2.2.2.2.2.1), (below_cell by_ hHeld.2.2.2.2.2.2.2.1), (below_cell by_ hHeld.2.2.2.2.2.2.2.2.1), (below_cell by_ hHeld.2.2.2.2.2.2.2.2.2.1), (below_cell by_ hHeld.2.2.2.2.2.2.2.2.2.2.1), (below_then hHeld.2.2.2.2.2.2.2.2.2.2.2 by_)⟩ (fun hHeld => ?_)
      clear hK K
      refine norm_ (a' := ?_) ?_ ?_
      rotate_left
      · show Act.put _ (some 45) _ = _
        simp only [Act.put, List.setIfInBounds_toArray, List.set_cons_zero, List.set_cons_succ, i64_w, i32_w]
        rfl
      refine pure_ (i := 8) (N := some 51) (v := ?_) (a' := ?_) #[true, true, true, true, true, true, true, true, true, false, false] rfl rfl (by kernel_rfl) (fun _ _ _ h => h) (Or.inl ⟨by rfl, ?_⟩) ?_ ?_
      rotate_left
      · intro w'
        go_simp
        with_reducible rfl
      rotate_left
      · simp only [Act.put, List.setIfInBounds_toArray, List.set_cons_zero, List.set_cons_succ, i64_w, i32_w]
        rfl
      refine one_ (i := 9) (N := some 11) #[true, true, true, true, true, true, true, true, true, true, false] rfl rfl (by kernel_rfl) (by decide) (fun K hK => ?_)
      refine value_ (w1 := ?_) (v := ?_) (by rfl) rfl ?_ ?_
      rotate_left 2
      · go_simp
        constructor
        · rfl
        · rfl
      have kT := NR wy.heap.size hHeld.2.2.2.2.2.2.2.2.2.2.2 (by simp)
      refine hK.out _ _ ⟨(below_cell (below_alloc (Below.refl _ _) (.cells #[.int .i64 0, .int .u8 0, .int .i64 0, .slice none 0 0, .string ⟨#[]⟩, .int .i64 0, .int .i64 0, .bool false, .slice none 0 0, .slice none 0 0, .slice none 0 0, .int .i64 0, .int .i64 0, .int .i64 0, .int .i64 0] 91)) hHeld.1), (below_cell (below_alloc (Below.refl _ _) (.cells #[.int .i64 0, .int .u8 0, .int .i64 0, .slice none 0 0, .string ⟨#[]⟩, .int .i64 0, .int .i64 0, .bool false, .slice none 0 0, .slice none 0 0, .slice none 0 0, .int .i64 0, .int .i64 0, .int .i64 0, .int .i64 0] 91)) hHeld.2.1), (below_cell (below_alloc (Below.refl _ _) (.cells #[.int .i64 0, .int .u8 0, .int .i64 0, .slice none 0 0, .string ⟨#[]⟩, .int .i64 0, .int .i64 0, .bool false, .slice none 0 0, .slice none 0 0, .slice none 0 0, .int .i64 0, .int .i64 0, .int .i64 0, .int .i64 0] 91)) hHeld.2.2.1), (below_cell (below_alloc (Below.refl _ _) (.cells #[.int .i64 0, .int .u8 0, .int .i64 0, .slice none 0 0, .string ⟨#[]⟩, .int .i64 0, .int .i64 0, .bool false, .slice none 0 0, .slice none 0 0, .slice none 0 0, .int .i64 0, .int .i64 0, .int .i64 0, .int .i64 0] 91)) hHeld.2.2.2.1), (below_cell (below_alloc (Below.refl _ _) (.cells #[.int .i64 0, .int .u8 0, .int .i64 0, .slice none 0 0, .string ⟨#[]⟩, .int .i64 0, .int .i64 0, .bool false, .slice none 0 0, .slice none 0 0, .slice none 0 0, .int .i64 0, .int .i64 0, .int .i64 0, .int .i64 0] 91)) hHeld.2.2.2.2.1), (below_cell (below_alloc (Below.refl _ _) (.cells #[.int .i64 0, .int .u8 0, .int .i64 0, .slice none 0 0, .string ⟨#[]⟩, .int .i64 0, .int .i64 0, .bool false, .slice none 0 0, .slice none 0 0, .slice none 0 0, .int .i64 0, .int .i64 0, .int .i64 0, .int .i64 0] 91)) hHeld.2.2.2.2.2.1), (below_cell (below_alloc (Below.refl _ _) (.cells #[.int .i64 0, .int .u8 0, .int .i64 0, .slice none 0 0, .string ⟨#[]⟩, .int .i64 0, .int .i64 0, .bool false, .slice none 0 0, .slice none 0 0, .slice none 0 0, .int .i64 0, .int .i64 0, .int .i64 0, .int .i64 0] 91)) hHeld.2.2.2.2.2.2.1), (below_cell (below_alloc (Below.refl _ _) (.cells #[.int .i64 0, .int .u8 0, .int .i64 0, .slice none 0 0, .string ⟨#[]⟩, .int .i64 0, .int .i64 0, .bool false, .slice none 0 0, .slice none 0 0, .slice none 0 0, .int .i64 0, .int .i64 0, .int .i64 0, .int .i64 0] 91)) hHeld.2.2.2.2.2.2.2.1), (below_cell (below_alloc (Below.refl _ _) (.cells #[.int .i64 0, .int .u8 0, .int .i64 0, .slice none 0 0, .string ⟨#[]⟩, .int .i64 0, .int .i64 0, .bool false, .slice none 0 0, .slice none 0 0, .slice none 0 0, .int .i64 0, .int .i64 0, .int .i64 0, .int .i64 0] 91)) hHeld.2.2.2.2.2.2.2.2.1), (below_cell (below_alloc (Below.refl _ _) (.cells #[.int .i64 0, .int .u8 0, .int .i64 0, .slice none 0 0, .string ⟨#[]⟩, .int .i64 0, .int .i64 0, .bool false, .slice none 0 0, .slice none 0 0, .slice none 0 0, .int .i64 0, .int .i64 0, .int .i64 0, .int .i64 0] 91)) hHeld.2.2.2.2.2.2.2.2.2.1), (below_cell (below_alloc (Below.refl _ _) (.cells #[.int .i64 0, .int .u8 0, .int .i64 0, .slice none 0 0, .string ⟨#[]⟩, .int .i64 0, .int .i64 0, .bool false, .slice none 0 0, .slice none 0 0, .slice none 0 0, .int .i64 0, .int .i64 0, .int .i64 0, .int .i64 0] 91)) hHeld.2.2.2.2.2.2.2.2.2.2.1), (below_then hHeld.2.2.2.2.2.2.2.2.2.2.2 (below_alloc (Below.refl _ _) (.cells #[.int .i64 0, .int .u8 0, .int .i64 0, .slice none 0 0, .string ⟨#[]⟩, .int .i64 0, .int .i64 0, .bool false, .slice none 0 0, .slice none 0 0, .slice none 0 0, .int .i64 0, .int .i64 0, .int .i64 0, .int .i64 0] 91)))⟩ (fun hHeld => ?_)
      clear hK K
      refine norm_ (a' := ?_) ?_ ?_
      rotate_left
      · show Act.put _ (some 11) _ = _
        simp only [Act.put, List.setIfInBounds_toArray, List.set_cons_zero, List.set_cons_succ, i64_w, i32_w]
        rfl
      exact norm_ (by first | (simp only [putAll, Act.put, List.setIfInBounds_toArray, List.set_cons_zero, List.set_cons_succ]; done) | (simp only [putAll, Act.put, List.setIfInBounds_toArray, List.set_cons_zero, List.set_cons_succ]; rfl)) (hCont wy.heap.size _ ⟨kT, (show w5.heap.size ≤ wy.heap.size from by_.size), hHeld⟩)
    · skip
      refine value_ (w1 := ?_) (v := ?_) (by rfl) rfl ?_ ?_
      rotate_left 2
      · go_simp
        constructor
        · rfl
        · rfl
      have kT := NR w5.heap.size hHeld.2.2.2.2.2.2.2.2.2.2.2 (by simp)
      refine hK.out _ _ ⟨(below_cell (below_alloc (Below.refl _ _) (.cells #[.int .i64 0, .int .u8 0, .int .i64 0, .slice none 0 0, .string ⟨#[]⟩, .int .i64 0, .int .i64 0, .bool false, .slice none 0 0, .slice none 0 0, .slice none 0 0, .int .i64 0, .int .i64 0, .int .i64 0, .int .i64 0] 91)) hHeld.1), (below_cell (below_alloc (Below.refl _ _) (.cells #[.int .i64 0, .int .u8 0, .int .i64 0, .slice none 0 0, .string ⟨#[]⟩, .int .i64 0, .int .i64 0, .bool false, .slice none 0 0, .slice none 0 0, .slice none 0 0, .int .i64 0, .int .i64 0, .int .i64 0, .int .i64 0] 91)) hHeld.2.1), (below_cell (below_alloc (Below.refl _ _) (.cells #[.int .i64 0, .int .u8 0, .int .i64 0, .slice none 0 0, .string ⟨#[]⟩, .int .i64 0, .int .i64 0, .bool false, .slice none 0 0, .slice none 0 0, .slice none 0 0, .int .i64 0, .int .i64 0, .int .i64 0, .int .i64 0] 91)) hHeld.2.2.1), (below_cell (below_alloc (Below.refl _ _) (.cells #[.int .i64 0, .int .u8 0, .int .i64 0, .slice none 0 0, .string ⟨#[]⟩, .int .i64 0, .int .i64 0, .bool false, .slice none 0 0, .slice none 0 0, .slice none 0 0, .int .i64 0, .int .i64 0, .int .i64 0, .int .i64 0] 91)) hHeld.2.2.2.1), (below_cell (below_alloc (Below.refl _ _) (.cells #[.int .i64 0, .int .u8 0, .int .i64 0, .slice none 0 0, .string ⟨#[]⟩, .int .i64 0, .int .i64 0, .bool false, .slice none 0 0, .slice none 0 0, .slice none 0 0, .int .i64 0, .int .i64 0, .int .i64 0, .int .i64 0] 91)) hHeld.2.2.2.2.1), (below_cell (below_alloc (Below.refl _ _) (.cells #[.int .i64 0, .int .u8 0, .int .i64 0, .slice none 0 0, .string ⟨#[]⟩, .int .i64 0, .int .i64 0, .bool false, .slice none 0 0, .slice none 0 0, .slice none 0 0, .int .i64 0, .int .i64 0, .int .i64 0, .int .i64 0] 91)) hHeld.2.2.2.2.2.1), (below_cell (below_alloc (Below.refl _ _) (.cells #[.int .i64 0, .int .u8 0, .int .i64 0, .slice none 0 0, .string ⟨#[]⟩, .int .i64 0, .int .i64 0, .bool false, .slice none 0 0, .slice none 0 0, .slice none 0 0, .int .i64 0, .int .i64 0, .int .i64 0, .int .i64 0] 91)) hHeld.2.2.2.2.2.2.1), (below_cell (below_alloc (Below.refl _ _) (.cells #[.int .i64 0, .int .u8 0, .int .i64 0, .slice none 0 0, .string ⟨#[]⟩, .int .i64 0, .int .i64 0, .bool false, .slice none 0 0, .slice none 0 0, .slice none 0 0, .int .i64 0, .int .i64 0, .int .i64 0, .int .i64 0] 91)) hHeld.2.2.2.2.2.2.2.1), (below_cell (below_alloc (Below.refl _ _) (.cells #[.int .i64 0, .int .u8 0, .int .i64 0, .slice none 0 0, .string ⟨#[]⟩, .int .i64 0, .int .i64 0, .bool false, .slice none 0 0, .slice none 0 0, .slice none 0 0, .int .i64 0, .int .i64 0, .int .i64 0, .int .i64 0] 91)) hHeld.2.2.2.2.2.2.2.2.1), (below_cell (below_alloc (Below.refl _ _) (.cells #[.int .i64 0, .int .u8 0, .int .i64 0, .slice none 0 0, .string ⟨#[]⟩, .int .i64 0, .int .i64 0, .bool false, .slice none 0 0, .slice none 0 0, .slice none 0 0, .int .i64 0, .int .i64 0, .int .i64 0, .int .i64 0] 91)) hHeld.2.2.2.2.2.2.2.2.2.1), (below_cell (below_alloc (Below.refl _ _) (.cells #[.int .i64 0, .int .u8 0, .int .i64 0, .slice none 0 0, .string ⟨#[]⟩, .int .i64 0, .int .i64 0, .bool false, .slice none 0 0, .slice none 0 0, .slice none 0 0, .int .i64 0, .int .i64 0, .int .i64 0, .int .i64 0] 91)) hHeld.2.2.2.2.2.2.2.2.2.2.1), (below_then hHeld.2.2.2.2.2.2.2.2.2.2.2 (below_alloc (Below.refl _ _) (.cells #[.int .i64 0, .int .u8 0, .int .i64 0, .slice none 0 0, .string ⟨#[]⟩, .int .i64 0, .int .i64 0, .bool false, .slice none 0 0, .slice none 0 0, .slice none 0 0, .int .i64 0, .int .i64 0, .int .i64 0, .int .i64 0] 91)))⟩ (fun hHeld => ?_)
      clear hK K
      refine norm_ (a' := ?_) ?_ ?_
      rotate_left
      · show Act.put _ (some 11) _ = _
        simp only [Act.put, List.setIfInBounds_toArray, List.set_cons_zero, List.set_cons_succ, i64_w, i32_w]
        rfl
      refine one_ (i := 2) (N := some 45) #[true, true, true, true, true, true, true, true, false, true, false] rfl rfl (by kernel_rfl) (by decide) (fun K hK => ?_)
      refine goes_ Tryz.func27 (by kernel_rfl) rfl #[.agg #[.int .u8 8, .int .i64 0, .slice none 0 0, .string ⟨#[]⟩, .int .i64 0]] (by rfl) rfl rfl (by simp only [List.map_toArray, List.map_cons, List.map_nil]; rfl) ?_
      with_reducible refine ((HCP.out _)).mono ?_
      rintro e' wy ⟨rfl, by_⟩
      refine ⟨_, rfl, ?_⟩
      replace kT := below_heap by_ kT
      refine hK.out _ _ ⟨(below_cell by_ hHeld.1), (below_cell by_ hHeld.2.1), (below_cell by_ hHeld.2.2.1), (below_cell by_ hHeld.2.2.2.1), (below_cell by_ hHeld.2.2.2.2.1), (below_cell by_ hHeld.2.2.2.2.2.1), (below_cell by_ hHeld.2.2.2.2.2.2.1), (below_cell by_ hHeld.2.2.2.2.2.2.2.1), (below_cell by_ hHeld.2.2.2.2.2.2.2.2.1), (below_cell by_ hHeld.2.2.2.2.2.2.2.2.2.1), (below_cell by_ hHeld.2.2.2.2.2.2.2.2.2.2.1), (below_then hHeld.2.2.2.2.2.2.2.2.2.2.2 by_)⟩ (fun hHeld => ?_)
      clear hK K
      refine norm_ (a' := ?_) ?_ ?_
      rotate_left
      · show Act.put _ (some 45) _ = _
        simp only [Act.put, List.setIfInBounds_toArray, List.set_cons_zero, List.set_cons_succ, i64_w, i32_w]
        rfl
      refine pure_ (i := 8) (N := some 51) (v := ?_) (a' := ?_) #[true, true, true, true, true, true, true, true, true, true, false] rfl rfl (by kernel_rfl) (fun _ _ _ h => h) (Or.inl ⟨by rfl, ?_⟩) ?_ ?_
      rotate_left
      · intro w'
        go_simp
        with_reducible rfl
      rotate_left
      · simp only [Act.put, List.setIfInBounds_toArray, List.set_cons_zero, List.set_cons_succ, i64_w, i32_w]
        rfl
      exact norm_ (by first | (simp only [putAll, Act.put, List.setIfInBounds_toArray, List.set_cons_zero, List.set_cons_succ]; done) | (simp only [putAll, Act.put, List.setIfInBounds_toArray, List.set_cons_zero, List.set_cons_succ]; rfl)) (hCont w5.heap.size _ ⟨kT, Nat.le_refl _, hHeld⟩)
  rintro T wn ⟨kT, tS, hHeld⟩
  have bn := hHeld.2.2.2.2.2.2.2.2.2.2.2
  have x0 := cell_at kT (i := 0) rfl
  have x1 := cell_at kT (i := 1) rfl
  have x2 := cell_at kT (i := 2) rfl
  have x3 := cell_at kT (i := 3) rfl
  have x4 := cell_at kT (i := 4) rfl
  have x5 := cell_at kT (i := 5) rfl
  have x6 := cell_at kT (i := 6) rfl
  have x7 := cell_at kT (i := 7) rfl
  have x8 := cell_at kT (i := 8) rfl
  have x9 := cell_at kT (i := 9) rfl
  have x10 := cell_at kT (i := 10) rfl
  have x11 := cell_at kT (i := 11) rfl
  have x12 := cell_at kT (i := 12) rfl
  have x13 := cell_at kT (i := 13) rfl
  have x14 := cell_at kT (i := 14) rfl
  have y0 := free_at kT 0
  have y1 := free_at kT 1
  have y2 := free_at kT 2
  have y3 := free_at kT 3
  have y4 := free_at kT 4
  have y5 := free_at kT 5
  have y6 := free_at kT 6
  have y7 := free_at kT 7
  have y8 := free_at kT 8
  have y9 := free_at kT 9
  have y10 := free_at kT 10
  have y11 := free_at kT 11
  have y12 := free_at kT 12
  have y13 := free_at kT 13
  have y14 := free_at kT 14
  refine norm_ (a' := ?_) ?_ ?_
  rotate_left
  · simp only [putAll, Act.put, List.setIfInBounds_toArray, List.set_cons_zero, List.set_cons_succ]
    rfl
  refine last_ (i := 10) (N := none) #[true, true, true, true, true, true, true, true, true, true, true] rfl rfl (by kernel_rfl) (by decide) (fun K hK => ?_)
  refine skip_ (w1 := ?_) (by rfl) rfl ?_ ?_
  rotate_left
  · go_simp
    rfl
  refine hK.out _ _ ?_
  clear hK K
  refine done_ (by kernel_rfl) ?_
  have GT0 : (((((((((((((((wn.setCell ⟨T, 0, none⟩ (.int .i64 3)).setCell ⟨T, 1, none⟩ (.int .u8 8)).setCell ⟨T, 2, none⟩ (.int .i64 0)).setCell ⟨T, 3, none⟩ (.slice none 0 0)).setCell ⟨T, 4, none⟩ (.string ⟨#[]⟩)).setCell ⟨T, 5, none⟩ (.int .i64 0)).setCell ⟨T, 6, none⟩ (.int .i64 0)).setCell ⟨T, 7, none⟩ (.bool false)).setCell ⟨T, 8, none⟩ (.slice none 0 0)).setCell ⟨T, 9, none⟩ (.slice (some ⟨g, 0, none⟩) 1 c)).setCell ⟨T, 10, none⟩ (.slice none 0 0)).setCell ⟨T, 11, none⟩ (.int .i64 1)).setCell ⟨T, 12, none⟩ (.int .i64 0)).setCell ⟨T, 13, none⟩ (.int .i64 0)).setCell ⟨T, 14, none⟩ (.int .i64 0)).heap[T]? = some (.cells #[.int .i64 3, .int .u8 8, .int .i64 0, .slice none 0 0, .string ⟨#[]⟩, .int .i64 0, .int .i64 0, .bool false, .slice none 0 0, .slice (some ⟨g, 0, none⟩) 1 c, .slice none 0 0, .int .i64 1, .int .i64 0, .int .i64 0, .int .i64 0] 91 (0, 0)) := by
    rw [heap_set (heap_set (heap_set (heap_set (heap_set (heap_set (heap_set (heap_set (heap_set (heap_set (heap_set (heap_set (heap_set (heap_set (heap_set kT))))))))))))))]; rfl
  have KT : Keeps (fun k => k = T) wn (((((((((((((((wn.setCell ⟨T, 0, none⟩ (.int .i64 3)).setCell ⟨T, 1, none⟩ (.int .u8 8)).setCell ⟨T, 2, none⟩ (.int .i64 0)).setCell ⟨T, 3, none⟩ (.slice none 0 0)).setCell ⟨T, 4, none⟩ (.string ⟨#[]⟩)).setCell ⟨T, 5, none⟩ (.int .i64 0)).setCell ⟨T, 6, none⟩ (.int .i64 0)).setCell ⟨T, 7, none⟩ (.bool false)).setCell ⟨T, 8, none⟩ (.slice none 0 0)).setCell ⟨T, 9, none⟩ (.slice (some ⟨g, 0, none⟩) 1 c)).setCell ⟨T, 10, none⟩ (.slice none 0 0)).setCell ⟨T, 11, none⟩ (.int .i64 1)).setCell ⟨T, 12, none⟩ (.int .i64 0)).setCell ⟨T, 13, none⟩ (.int .i64 0)).setCell ⟨T, 14, none⟩ (.int .i64 0)) := ((((((((((((((((Keeps.refl (fun k => k = T) wn).setCell (p := ⟨T, 0, none⟩) (fun _ => rfl) _).setCell (p := ⟨T, 1, none⟩) (fun _ => rfl) _).setCell (p := ⟨T, 2, none⟩) (fun _ => rfl) _).setCell (p := ⟨T, 3, none⟩) (fun _ => rfl) _).setCell (p := ⟨T, 4, none⟩) (fun _ => rfl) _).setCell (p := ⟨T, 5, none⟩) (fun _ => rfl) _).setCell (p := ⟨T, 6, none⟩) (fun _ => rfl) _).setCell (p := ⟨T, 7, none⟩) (fun _ => rfl) _).setCell (p := ⟨T, 8, none⟩) (fun _ => rfl) _).setCell (p := ⟨T, 9, none⟩) (fun _ => rfl) _).setCell (p := ⟨T, 10, none⟩) (fun _ => rfl) _).setCell (p := ⟨T, 11, none⟩) (fun _ => rfl) _).setCell (p := ⟨T, 12, none⟩) (fun _ => rfl) _).setCell (p := ⟨T, 13, none⟩) (fun _ => rfl) _).setCell (p := ⟨T, 14, none⟩) (fun _ => rfl) _)
  have NT := hid (show T ≠ E ∧ T ≠ S1 ∧ T ≠ S9 ∧ T ≠ g ∧ w.heap.size ≤ T by have := lt_of_block G1.out; have := lt_of_block G9.out; have : g < w5.heap.size := World.block_lt_of_cell? _ _ CG.out; have := KP.out.size; have := AP.out.lt; omega)
  replace G1 := hid (KT.heap (below_heap bn G1.out) (fun e => NT.out.2.1 e.symm))
  replace G9 := hid (KT.heap (below_heap bn G9.out) (fun e => NT.out.2.2.1 e.symm))
  replace E3 := hid ((E3.out.below bn).new AP.out NT.out.2.2.2.2 KT)
  replace CG := hid (KT.cell (below_cell bn CG.out) (fun e => NT.out.2.2.2.1 e.symm))
  replace KP := hid ((KP.out.below bn).then KT (fun k hk (e : k = T) => absurd hk (by have := NT.out.2.2.2.2; omega)))
  have GT := hid GT0
  clear GT0 KT tS bn kT hHeld c0 c1 c2 c3 c4 d0 d1 d2 d3 d4 k75 HCP NR G0 al x0 y0 x1 y1 x2 y2 x3 y3 x4 y4 x5 y5 x6 y6 x7 y7 x8 y8 x9 y9 x10 y10 x11 y11 x12 y12 x13 y13 x14 y14
  generalize (((((((((((((((wn.setCell ⟨T, 0, none⟩ (.int .i64 3)).setCell ⟨T, 1, none⟩ (.int .u8 8)).setCell ⟨T, 2, none⟩ (.int .i64 0)).setCell ⟨T, 3, none⟩ (.slice none 0 0)).setCell ⟨T, 4, none⟩ (.string ⟨#[]⟩)).setCell ⟨T, 5, none⟩ (.int .i64 0)).setCell ⟨T, 6, none⟩ (.int .i64 0)).setCell ⟨T, 7, none⟩ (.bool false)).setCell ⟨T, 8, none⟩ (.slice none 0 0)).setCell ⟨T, 9, none⟩ (.slice (some ⟨g, 0, none⟩) 1 c)).setCell ⟨T, 10, none⟩ (.slice none 0 0)).setCell ⟨T, 11, none⟩ (.int .i64 1)).setCell ⟨T, 12, none⟩ (.int .i64 0)).setCell ⟨T, 13, none⟩ (.int .i64 0)).setCell ⟨T, 14, none⟩ (.int .i64 0)) = X1 at *
  have k75 := cell_at E3.out.eng (i := 75) (v := .int .i64 1) rfl
  have x12 := cell_at GT.out (i := 12) rfl
  have x13 := cell_at GT.out (i := 13) rfl
  have y12 := free_at GT.out 12
  have y13 := free_at GT.out 13
  go_wp2
  refine start_ (n := 12) (S := fun w' => w'.cell? ⟨E, 75, none⟩ = some (.int .i64 1) ∧ w'.cell? ⟨T, 13, none⟩ = some (.int .i64 0)) (ds := [11]) #[false, false, false, false, false, false, false, false, false, false, false, false] (by kernel_rfl) rfl rfl ⟨k75, x13⟩ (fun hHeld => ?_)
  refine pure_ (i := 0) (N := some 53) (v := ?_) (a' := ?_) #[true, false, false, false, false, false, false, false, false, false, false, false] rfl rfl (by kernel_rfl) (fun _ _ _ h => h) (Or.inl ⟨by rfl, ?_⟩) ?_ ?_
  rotate_left
  · intro w'
    go_simp
    with_reducible rfl
  rotate_left
  · simp only [Act.put, List.setIfInBounds_toArray, List.set_cons_zero, List.set_cons_succ, i64_w, i32_w]
    rfl
  refine pure_ (i := 1) (N := some 54) (v := ?_) (a' := ?_) #[true, true, false, false, false, false, false, false, false, false, false, false] rfl rfl (by kernel_rfl) (fun _ _ _ h => h) (Or.inl ⟨by rfl, ?_⟩) ?_ ?_
  rotate_left
  · intro w'
    go_simp
    with_reducible rfl
  rotate_left
  · simp only [Act.put, List.setIfInBounds_toArray, List.set_cons_zero, List.set_cons_succ, i64_w, i32_w]
    rfl
  refine pure_ (i := 2) (N := some 55) (v := ?_) (a' := ?_) #[true, true, true, false, false, false, false, false, false, false, false, false] rfl rfl (by kernel_rfl) (fun _ _ _ h => h) (Or.inl ⟨by rfl, ?_⟩) ?_ ?_
  rotate_left
  · intro w'
    go_simp
    with_reducible rfl
  rotate_left
  · simp only [Act.put, List.setIfInBounds_toArray, List.set_cons_zero, List.set_cons_succ, i64_w, i32_w]
    rfl
  refine pure_ (i := 4) (N := some 57) (v := ?_) (a' := ?_) #[true, true, true, false, true, false, false, false, false, false, false, false] rfl rfl (by kernel_rfl) (fun _ _ _ h => h) (Or.inl ⟨by rfl, ?_⟩) ?_ ?_
  rotate_left
  · intro w'
    go_simp
    with_reducible rfl
  rotate_left
  · simp only [Act.put, List.setIfInBounds_toArray, List.set_cons_zero, List.set_cons_succ, i64_w, i32_w]
    rfl
  refine pure_ (i := 5) (N := some 58) (v := ?_) (a' := ?_) #[true, true, true, false, true, true, false, false, false, false, false, false] rfl rfl (by kernel_rfl) (fun _ _ _ h => h) (Or.inl ⟨by rfl, ?_⟩) ?_ ?_
  rotate_left
  · intro w'
    go_simp
    with_reducible rfl
  rotate_left
  · simp only [Act.put, List.setIfInBounds_toArray, List.set_cons_zero, List.set_cons_succ, i64_w, i32_w]
    rfl
  refine pure_ (i := 6) (N := some 59) (v := ?_) (a' := ?_) #[true, true, true, false, true, true, true, false, false, false, false, false] rfl rfl (by kernel_rfl) (fun _ _ _ h => h) (Or.inl ⟨by rfl, ?_⟩) ?_ ?_
  rotate_left
  · intro w'
    go_simp
    with_reducible rfl
  rotate_left
  · simp only [Act.put, List.setIfInBounds_toArray, List.set_cons_zero, List.set_cons_succ, i64_w, i32_w]
    rfl
  refine take_ (i := 3) (N := some 56) (v := ?_) (a' := ?_) #[true, true, true, true, true, true, true, false, false, false, false, false] rfl rfl (by kernel_rfl) (fun _ _ _ h => h) (Or.inl ⟨by rfl, ?_⟩) hHeld ?_ ?_
  rotate_left
  · rintro w' ⟨s0, s1⟩
    go_simp
    with_reducible rfl
  rotate_left
  · simp only [Act.put, List.setIfInBounds_toArray, List.set_cons_zero, List.set_cons_succ, i64_w, i32_w]
    rfl
  refine pure_ (i := 8) (N := some 61) (v := ?_) (a' := ?_) #[true, true, true, true, true, true, true, false, true, false, false, false] rfl rfl (by kernel_rfl) (fun _ _ _ h => h) (Or.inl ⟨by rfl, ?_⟩) ?_ ?_
  rotate_left
  · intro w'
    go_simp
    with_reducible rfl
  rotate_left
  · simp only [Act.put, List.setIfInBounds_toArray, List.set_cons_zero, List.set_cons_succ, i64_w, i32_w]
    rfl
  refine take_ (i := 7) (N := some 60) (v := ?_) (a' := ?_) #[true, true, true, true, true, true, true, true, true, false, false, false] rfl rfl (by kernel_rfl) (fun _ _ _ h => h) (Or.inl ⟨by rfl, ?_⟩) hHeld ?_ ?_
  rotate_left
  · rintro w' ⟨s0, s1⟩
    go_simp
    with_reducible rfl
  rotate_left
  · simp only [Act.put, List.setIfInBounds_toArray, List.set_cons_zero, List.set_cons_succ, i64_w, i32_w]
    rfl
  refine one_ (i := 9) (N := none) #[true, true, true, true, true, true, true, true, true, true, false, false] rfl rfl (by kernel_rfl) (by decide) (fun K hK => ?_)
  refine skip_ (w1 := ?_) (by rfl) rfl ?_ ?_
  rotate_left
  · go_simp
    rfl
  refine hK.out _ _ ⟨(((Keeps.refl (fun k => k = T) _).setCell (p := ⟨T, 12, none⟩) (fun _ => rfl) _).cell hHeld.1 (fun e => NT.out.1 e.symm)), (by have := hHeld.2; go_cell)⟩ (fun hHeld => ?_)
  clear hK K
  refine pure_ (i := 10) (N := some 62) (v := ?_) (a' := ?_) #[true, true, true, true, true, true, true, true, true, true, true, false] rfl rfl (by kernel_rfl) (fun _ _ _ h => h) (Or.inl ⟨by rfl, ?_⟩) ?_ ?_
  rotate_left
  · intro w'
    go_simp
    with_reducible rfl
  rotate_left
  · simp only [Act.put, List.setIfInBounds_toArray, List.set_cons_zero, List.set_cons_succ, i64_w, i32_w]
    rfl
  refine last_ (i := 11) (N := none) #[true, true, true, true, true, true, true, true, true, true, true, true] rfl rfl (by kernel_rfl) (by decide) (fun K hK => ?_)
  refine skip_ (w1 := ?_) (by rfl) rfl ?_ ?_
  rotate_left
  · go_simp
    rfl
  refine hK.out _ _ ?_
  clear hK K
  refine done_ (by kernel_rfl) ?_
  have GT2 : ((X1.setCell ⟨T, 12, none⟩ (.int .i64 1)).setCell ⟨T, 13, none⟩ (.int .i64 1)).heap[T]? = some (.cells #[.int .i64 3, .int .u8 8, .int .i64 0, .slice none 0 0, .string ⟨#[]⟩, .int .i64 0, .int .i64 0, .bool false, .slice none 0 0, .slice (some ⟨g, 0, none⟩) 1 c, .slice none 0 0, .int .i64 1, .int .i64 1, .int .i64 1, .int .i64 0] 91 (0, 0)) := by
    rw [heap_set (heap_set GT.out)]; rfl
  have KT2 : Keeps (fun k => k = T) X1 ((X1.setCell ⟨T, 12, none⟩ (.int .i64 1)).setCell ⟨T, 13, none⟩ (.int .i64 1)).drew := (((Keeps.refl (fun k => k = T) X1).setCell (p := ⟨T, 12, none⟩) (fun _ => rfl) _).setCell (p := ⟨T, 13, none⟩) (fun _ => rfl) _).drew
  have GT3 : ((X1.setCell ⟨T, 12, none⟩ (.int .i64 1)).setCell ⟨T, 13, none⟩ (.int .i64 1)).drew.heap[T]? = some (.cells #[.int .i64 3, .int .u8 8, .int .i64 0, .slice none 0 0, .string ⟨#[]⟩, .int .i64 0, .int .i64 0, .bool false, .slice none 0 0, .slice (some ⟨g, 0, none⟩) 1 c, .slice none 0 0, .int .i64 1, .int .i64 1, .int .i64 1, .int .i64 0] 91 (0, 0)) := GT2
  replace G1 := hid (KT2.heap G1.out (fun e => NT.out.2.1 e.symm))
  replace G9 := hid (KT2.heap G9.out (fun e => NT.out.2.2.1 e.symm))
  replace E3 := hid (E3.out.new AP.out NT.out.2.2.2.2 KT2)
  replace CG := hid (KT2.cell CG.out (fun e => NT.out.2.2.2.1 e.symm))
  replace KP := hid (KP.out.then KT2 (fun k hk (e : k = T) => absurd hk (by have := NT.out.2.2.2.2; omega)))
  replace GT := hid GT3
  clear GT2 GT3 KT2 k75 x12 x13 y12 y13
  go_upto_region 13 with fail
  generalize ((X1.setCell ⟨T, 12, none⟩ (.int .i64 1)).setCell ⟨T, 13, none⟩ (.int .i64 1)).drew = X2 at *
  have k74 := cell_at E3.out.eng (i := 74) (v := .slice none 0 0) rfl
  have f74 := free_at E3.out.eng 74
  have x0 := cell_at GT.out (i := 0) rfl
  have x1 := cell_at GT.out (i := 1) rfl
  have x2 := cell_at GT.out (i := 2) rfl
  have x3 := cell_at GT.out (i := 3) rfl
  have x4 := cell_at GT.out (i := 4) rfl
  have x5 := cell_at GT.out (i := 5) rfl
  have x6 := cell_at GT.out (i := 6) rfl
  have x7 := cell_at GT.out (i := 7) rfl
  have x8 := cell_at GT.out (i := 8) rfl
  have x9 := cell_at GT.out (i := 9) rfl
  have x10 := cell_at GT.out (i := 10) rfl
  have x11 := cell_at GT.out (i := 11) rfl
  have x12 := cell_at GT.out (i := 12) rfl
  have x13 := cell_at GT.out (i := 13) rfl
  have x14 := cell_at GT.out (i := 14) rfl
  have NB : ∀ {w1 : World} (q : Nat), Below X2.heap.size X2 w1 → w1.heap.size = q → (w1.alloc (.cells #[.int .i64 3, .int .u8 8, .int .i64 0, .slice none 0 0, .string ⟨#[]⟩, .int .i64 0, .int .i64 0, .bool false, .slice none 0 0, .slice (some ⟨g, 0, none⟩) 1 c, .slice none 0 0, .int .i64 1, .int .i64 1, .int .i64 1, .int .i64 0] 91)).heap[q]? = some (.cells #[.int .i64 3, .int .u8 8, .int .i64 0, .slice none 0 0, .string ⟨#[]⟩, .int .i64 0, .int .i64 0, .bool false, .slice none 0 0, .slice (some ⟨g, 0, none⟩) 1 c, .slice none 0 0, .int .i64 1, .int .i64 1, .int .i64 1, .int .i64 0] 91 (0, 0)) := fun g _ e => by subst e; exact heap_alloc_new _ _
  obtain ⟨i0, hi, hz0, hz1, hz2⟩ := info_parts infEntry
  go_wp2
  refine start_ (n := 11) (S := fun w' => w'.cell? ⟨E, 74, none⟩ = some (.slice none 0 0) ∧ w'.cell? ⟨T, 0, none⟩ = some (.int .i64 3) ∧ w'.cell? ⟨T, 1, none⟩ = some (.int .u8 8) ∧ w'.cell? ⟨T, 2, none⟩ = some (.int .i64 0) ∧ w'.cell? ⟨T, 3, none⟩ = some (.slice none 0 0) ∧ w'.cell? ⟨T, 4, none⟩ = some (.string ⟨#[]⟩) ∧ w'.cell? ⟨T, 5, none⟩ = some (.int .i64 0) ∧ w'.cell? ⟨T, 6, none⟩ = some (.int .i64 0) ∧ w'.cell? ⟨T, 7, none⟩ = some (.bool false) ∧ w'.cell? ⟨T, 8, none⟩ = some (.slice none 0 0) ∧ w'.cell? ⟨T, 9, none⟩ = some (.slice (some ⟨g, 0, none⟩) 1 c) ∧ w'.cell? ⟨T, 10, none⟩ = some (.slice none 0 0) ∧ w'.cell? ⟨T, 11, none⟩ = some (.int .i64 1) ∧ w'.cell? ⟨T, 12, none⟩ = some (.int .i64 1) ∧ w'.cell? ⟨T, 13, none⟩ = some (.int .i64 1) ∧ w'.cell? ⟨T, 14, none⟩ = some (.int .i64 0) ∧ Below X2.heap.size X2 w') (ds := [7, 10]) #[false, false, false, false, false, false, false, false, false, false, false] (by kernel_rfl) rfl rfl ⟨k74, x0, x1, x2, x3, x4, x5, x6, x7, x8, x9, x10, x11, x12, x13, x14, (Below.refl X2.heap.size X2).drew⟩ (fun hHeld => ?_)
  refine pure_ (i := 0) (N := some 63) (v := ?_) (a' := ?_) #[true, false, false, false, false, false, false, false, false, false, false] rfl rfl (by kernel_rfl) (fun _ _ _ h => h) (Or.inl ⟨by rfl, ?_⟩) ?_ ?_
  rotate_left
  · intro w'
    go_simp
    with_reducible rfl
  rotate_left
  · simp only [Act.put, List.setIfInBounds_toArray, List.set_cons_zero, List.set_cons_succ, i64_w, i32_w]
    rfl
  refine pure_ (i := 1) (N := some 64) (v := ?_) (a' := ?_) #[true, true, false, false, false, false, false, false, false, false, false] rfl rfl (by kernel_rfl) (fun _ _ _ h => h) (Or.inl ⟨by rfl, ?_⟩) ?_ ?_
  rotate_left
  · intro w'
    go_simp
    with_reducible rfl
  rotate_left
  · simp only [Act.put, List.setIfInBounds_toArray, List.set_cons_zero, List.set_cons_succ, i64_w, i32_w]
    rfl
  refine pure_ (i := 2) (N := some 65) (v := ?_) (a' := ?_) #[true, true, true, false, false, false, false, false, false, false, false] rfl rfl (by kernel_rfl) (fun _ _ _ h => h) (Or.inl ⟨by rfl, ?_⟩) ?_ ?_
  rotate_left
  · intro w'
    go_simp
    with_reducible rfl
  rotate_left
  · simp only [Act.put, List.setIfInBounds_toArray, List.set_cons_zero, List.set_cons_succ, i64_w, i32_w]
    rfl
  refine pure_ (i := 3) (N := some 66) (v := ?_) (a' := ?_) #[true, true, true, true, false, false, false, false, false, false, false] rfl rfl (by kernel_rfl) (fun _ _ _ h => h) (Or.inl ⟨by rfl, ?_⟩) ?_ ?_
  rotate_left
  · intro w'
    go_simp
    with_reducible rfl
  rotate_left
  · simp only [Act.put, List.setIfInBounds_toArray, List.set_cons_zero, List.set_cons_succ, i64_w, i32_w]
    rfl
  refine take_ (i := 4) (N := some 67) (v := ?_) (a' := ?_) #[true, true, true, true, true, false, false, false, false, false, false] rfl rfl (by kernel_rfl) (fun _ _ _ h => h) (Or.inl ⟨by rfl, ?_⟩) hHeld ?_ ?_
  rotate_left
  · rintro w' ⟨s0, s1, s2, s3, s4, s5, s6, s7, s8, s9, s10, s11, s12, s13, s14, s15, s16⟩
    go_simp
    with_reducible rfl
  rotate_left
  · simp only [Act.put, List.setIfInBounds_toArray, List.set_cons_zero, List.set_cons_succ, i64_w, i32_w]
    rfl
  refine take_ (i := 5) (N := some 68) (v := ?_) (a' := ?_) #[true, true, true, true, true, true, false, false, false, false, false] rfl rfl (by kernel_rfl) (fun _ _ _ h => h) (Or.inl ⟨by rfl, ?_⟩) hHeld ?_ ?_
  rotate_left
  · rintro w' ⟨s0, s1, s2, s3, s4, s5, s6, s7, s8, s9, s10, s11, s12, s13, s14, s15, s16⟩
    go_simp
    with_reducible rfl
  rotate_left
  · simp only [Act.put, List.setIfInBounds_toArray, List.set_cons_zero, List.set_cons_succ, i64_w, i32_w]
    rfl
  refine one_ (i := 6) (N := some 69) #[true, true, true, true, true, true, true, false, false, false, false] rfl rfl (by kernel_rfl) (by decide) (fun K hK => ?_)
  refine value_ (w1 := ?_) (v := ?_) (by rfl) rfl ?_ ?_
  rotate_left 2
  · go_simp
    constructor
    · rfl
    · rfl
  have kB := NB X2.heap.size hHeld.2.2.2.2.2.2.2.2.2.2.2.2.2.2.2.2 (by simp)
  refine hK.out _ _ ⟨(below_cell (below_alloc (Below.refl _ _) (.cells #[.int .i64 3, .int .u8 8, .int .i64 0, .slice none 0 0, .string ⟨#[]⟩, .int .i64 0, .int .i64 0, .bool false, .slice none 0 0, .slice (some ⟨g, 0, none⟩) 1 c, .slice none 0 0, .int .i64 1, .int .i64 1, .int .i64 1, .int .i64 0] 91)) hHeld.1), (below_cell (below_alloc (Below.refl _ _) (.cells #[.int .i64 3, .int .u8 8, .int .i64 0, .slice none 0 0, .string ⟨#[]⟩, .int .i64 0, .int .i64 0, .bool false, .slice none 0 0, .slice (some ⟨g, 0, none⟩) 1 c, .slice none 0 0, .int .i64 1, .int .i64 1, .int .i64 1, .int .i64 0] 91)) hHeld.2.1), (below_cell (below_alloc (Below.refl _ _) (.cells #[.int .i64 3, .int .u8 8, .int .i64 0, .slice none 0 0, .string ⟨#[]⟩, .int .i64 0, .int .i64 0, .bool false, .slice none 0 0, .slice (some ⟨g, 0, none⟩) 1 c, .slice none 0 0, .int .i64 1, .int .i64 1, .int .i64 1, .int .i64 0] 91)) hHeld.2.2.1), (below_cell (below_alloc (Below.refl _ _) (.cells #[.int .i64 3, .int .u8 8, .int .i64 0, .slice none 0 0, .string ⟨#[]⟩, .int .i64 0, .int .i64 0, .bool false, .slice none 0 0, .slice (some ⟨g, 0, none⟩) 1 c, .slice none 0 0, .int .i64 1, .int .i64 1, .int .i64 1, .int .i64 0] 91)) hHeld.2.2.2.1), (below_cell (below_alloc (Below.refl _ _) (.cells #[.int .i64 3, .int .u8 8, .int .i64 0, .slice none 0 0, .string ⟨#[]⟩, .int .i64 0, .int .i64 0, .bool false, .slice none 0 0, .slice (some ⟨g, 0, none⟩) 1 c, .slice none 0 0, .int .i64 1, .int .i64 1, .int .i64 1, .int .i64 0] 91)) hHeld.2.2.2.2.1), (below_cell (below_alloc (Below.refl _ _) (.cells #[.int .i64 3, .int .u8 8, .int .i64 0, .slice none 0 0, .string ⟨#[]⟩, .int .i64 0, .int .i64 0, .bool false, .slice none 0 0, .slice (some ⟨g, 0, none⟩) 1 c, .slice none 0 0, .int .i64 1, .int .i64 1, .int .i64 1, .int .i64 0] 91)) hHeld.2.2.2.2.2.1), (below_cell (below_alloc (Below.refl _ _) (.cells #[.int .i64 3, .int .u8 8, .int .i64 0, .slice none 0 0, .string ⟨#[]⟩, .int .i64 0, .int .i64 0, .bool false, .slice none 0 0, .slice (some ⟨g, 0, none⟩) 1 c, .slice none 0 0, .int .i64 1, .int .i64 1, .int .i64 1, .int .i64 0] 91)) hHeld.2.2.2.2.2.2.1), (below_cell (below_alloc (Below.refl _ _) (.cells #[.int .i64 3, .int .u8 8, .int .i64 0, .slice none 0 0, .string ⟨#[]⟩, .int .i64 0, .int .i64 0, .bool false, .slice none 0 0, .slice (some ⟨g, 0, none⟩) 1 c, .slice none 0 0, .int .i64 1, .int .i64 1, .int .i64 1, .int .i64 0] 91)) hHeld.2.2.2.2.2.2.2.1), (below_cell (below_alloc (Below.refl _ _) (.cells #[.int .i64 3, .int .u8 8, .int .i64 0, .slice none 0 0, .string ⟨#[]⟩, .int .i64 0, .int .i64 0, .bool false, .slice none 0 0, .slice (some ⟨g, 0, none⟩) 1 c, .slice none 0 0, .int .i64 1, .int .i64 1, .int .i64 1, .int .i64 0] 91)) hHeld.2.2.2.2.2.2.2.2.1), (below_cell (below_alloc (Below.refl _ _) (.cells #[.int .i64 3, .int .u8 8, .int .i64 0, .slice none 0 0, .string ⟨#[]⟩, .int .i64 0, .int .i64 0, .bool false, .slice none 0 0, .slice (some ⟨g, 0, none⟩) 1 c, .slice none 0 0, .int .i64 1, .int .i64 1, .int .i64 1, .int .i64 0] 91)) hHeld.2.2.2.2.2.2.2.2.2.1), (below_cell (below_alloc (Below.refl _ _) (.cells #[.int .i64 3, .int .u8 8, .int .i64 0, .slice none 0 0, .string ⟨#[]⟩, .int .i64 0, .int .i64 0, .bool false, .slice none 0 0, .slice (some ⟨g, 0, none⟩) 1 c, .slice none 0 0, .int .i64 1, .int .i64 1, .int .i64 1, .int .i64 0] 91)) hHeld.2.2.2.2.2.2.2.2.2.2.1), (below_cell (below_alloc (Below.refl _ _) (.cells #[.int .i64 3, .int .u8 8, .int .i64 0, .slice none 0 0, .string ⟨#[]⟩, .int .i64 0, .int .i64 0, .bool false, .slice none 0 0, .slice (some ⟨g, 0, none⟩) 1 c, .slice none 0 0, .int .i64 1, .int .i64 1, .int .i64 1, .int .i64 0] 91)) hHeld.2.2.2.2.2.2.2.2.2.2.2.1), (below_cell (below_alloc (Below.refl _ _) (.cells #[.int .i64 3, .int .u8 8, .int .i64 0, .slice none 0 0, .string ⟨#[]⟩, .int .i64 0, .int .i64 0, .bool false, .slice none 0 0, .slice (some ⟨g, 0, none⟩) 1 c, .slice none 0 0, .int .i64 1, .int .i64 1, .int .i64 1, .int .i64 0] 91)) hHeld.2.2.2.2.2.2.2.2.2.2.2.2.1), (below_cell (below_alloc (Below.refl _ _) (.cells #[.int .i64 3, .int .u8 8, .int .i64 0, .slice none 0 0, .string ⟨#[]⟩, .int .i64 0, .int .i64 0, .bool false, .slice none 0 0, .slice (some ⟨g, 0, none⟩) 1 c, .slice none 0 0, .int .i64 1, .int .i64 1, .int .i64 1, .int .i64 0] 91)) hHeld.2.2.2.2.2.2.2.2.2.2.2.2.2.1), (below_cell (below_alloc (Below.refl _ _) (.cells #[.int .i64 3, .int .u8 8, .int .i64 0, .slice none 0 0, .string ⟨#[]⟩, .int .i64 0, .int .i64 0, .bool false, .slice none 0 0, .slice (some ⟨g, 0, none⟩) 1 c, .slice none 0 0, .int .i64 1, .int .i64 1, .int .i64 1, .int .i64 0] 91)) hHeld.2.2.2.2.2.2.2.2.2.2.2.2.2.2.1), (below_cell (below_alloc (Below.refl _ _) (.cells #[.int .i64 3, .int .u8 8, .int .i64 0, .slice none 0 0, .string ⟨#[]⟩, .int .i64 0, .int .i64 0, .bool false, .slice none 0 0, .slice (some ⟨g, 0, none⟩) 1 c, .slice none 0 0, .int .i64 1, .int .i64 1, .int .i64 1, .int .i64 0] 91)) hHeld.2.2.2.2.2.2.2.2.2.2.2.2.2.2.2.1), (below_then hHeld.2.2.2.2.2.2.2.2.2.2.2.2.2.2.2.2 (below_alloc (Below.refl _ _) (.cells #[.int .i64 3, .int .u8 8, .int .i64 0, .slice none 0 0, .string ⟨#[]⟩, .int .i64 0, .int .i64 0, .bool false, .slice none 0 0, .slice (some ⟨g, 0, none⟩) 1 c, .slice none 0 0, .int .i64 1, .int .i64 1, .int .i64 1, .int .i64 0] 91)))⟩ (fun hHeld => ?_)
  clear hK K
  refine norm_ (a' := ?_) ?_ ?_
  rotate_left
  · show Act.put _ (some 69) _ = _
    simp only [Act.put, List.setIfInBounds_toArray, List.set_cons_zero, List.set_cons_succ, i64_w, i32_w]
    rfl
  refine last_ (i := 7) (N := some 70) #[true, true, true, true, true, true, true, true, false, false, false] rfl rfl (by kernel_rfl) (by decide) (fun K hK => ?_)
  refine step_app rfl (.tmp 67) (.tmp 69) _ rfl 91 i0 _ 15 192 Tryz.underlying72 hi hz0 hz1 hz2 rfl (by decide) (.slice none 0 0) 0 [] rfl (World.ownsRow_nil _ _ _ _) (some ⟨X2.heap.size, 0, none⟩) 1 1 [.int .i64 3, .int .u8 8, .int .i64 0, .slice none 0 0, .string ⟨#[]⟩, .int .i64 0, .int .i64 0, .bool false, .slice none 0 0, .slice (some ⟨g, 0, none⟩) 1 c, .slice none 0 0, .int .i64 1, .int .i64 1, .int .i64 1, .int .i64 0] rfl rfl (fun e => by cases e) (news_of_block kB) (by intro u hu; simp at hu; rcases hu with rfl | rfl | rfl | rfl | rfl | rfl | rfl | rfl | rfl | rfl | rfl | rfl | rfl | rfl | rfl <;> rfl) (by unfold maxLen; omega) (by omega) ?_
  intro A' c' wa h2 h3 h4 h5
  have bA := ((Keeps.of_below (S := fun _ => False) hHeld.2.2.2.2.2.2.2.2.2.2.2.2.2.2.2.2).grown h3 (fun k e => by simp [Value.ownBlock] at e)).toBelow
  have EA := E3.out.below bA
  have q74 := cell_at EA.eng (i := 74) (v := .slice none 0 0) rfl
  have r74 := free_at EA.eng 74
  refine hK.out _ _ ?_
  clear hK K
  refine norm_ (a' := ?_) ?_ ?_
  rotate_left
  · show Act.put _ (some 70) _ = _
    simp only [Act.put, List.setIfInBounds_toArray, List.set_cons_zero, List.set_cons_succ, i64_w, i32_w]
    rfl
  refine pure_ (i := 8) (N := some 71) (v := ?_) (a' := ?_) #[true, true, true, true, true, true, true, true, true, false, false] rfl rfl (by kernel_rfl) (fun _ _ _ h => h) (Or.inl ⟨by rfl, ?_⟩) ?_ ?_
  rotate_left
  · intro w'
    go_simp
    with_reducible rfl
  rotate_left
  · simp only [Act.put, List.setIfInBounds_toArray, List.set_cons_zero, List.set_cons_succ, i64_w, i32_w]
    rfl
  refine pure_ (i := 9) (N := some 72) (v := ?_) (a' := ?_) #[true, true, true, true, true, true, true, true, true, true, false] rfl rfl (by kernel_rfl) (fun _ _ _ h => h) (Or.inl ⟨by rfl, ?_⟩) ?_ ?_
  rotate_left
  · intro w'
    go_simp
    with_reducible rfl
  rotate_left
  · simp only [Act.put, List.setIfInBounds_toArray, List.set_cons_zero, List.set_cons_succ, i64_w, i32_w]
    rfl
  refine last_ (i := 10) (N := none) #[true, true, true, true, true, true, true, true, true, true, true] rfl rfl (by kernel_rfl) (by decide) (fun K hK => ?_)
  refine skip_ (w1 := ?_) (by rfl) rfl ?_ ?_
  rotate_left
  · go_simp
    rfl
  refine hK.out _ _ ?_
  clear hK K
  refine done_ (by kernel_rfl) ?_
  have KE : Keeps (fun k => k = E) wa (wa.setCell ⟨E, 74, none⟩ (.slice A' 1 c')) := (Keeps.refl (fun k => k = E) wa).setCell (p := ⟨E, 74, none⟩) (fun _ => rfl) _
  have E4 := hid (EA.set74 (h' := .slice A' 1 c') AP.out.ne)
  replace G1 := hid (KE.heap (below_heap bA G1.out) SZ.out.1)
  replace G9 := hid (KE.heap (below_heap bA G9.out) N9.out.1)
  replace CG := hid (KE.cell (below_cell bA CG.out) (show ¬ g = E by have := GS.out.1; have := AP.out.lt; omega))
  replace KP := hid ((KP.out.below bA).then KE (fun _ _ e => e))
  clear KE EA q74 r74 bA h2 h3 h4 h5 hi hz0 hz1 hz2 NB hHeld k74 f74 x0 x1 x2 x3 x4 x5 x6 x7 x8 x9 x10 x11 x12 x13 x14 E3 GT
  generalize wa.setCell ⟨E, 74, none⟩ (.slice A' 1 c') = X3 at *
  have d0 := cell_at G9.out (i := 0) rfl
  have d1 := cell_at G9.out (i := 1) rfl
  have d2 := cell_at G9.out (i := 2) rfl
  have d3 := cell_at G9.out (i := 3) rfl
  have d4 := cell_at G9.out (i := 4) rfl
  have q0 := cell_at G1.out (i := 0) rfl
  have q1 := cell_at G1.out (i := 1) rfl
  have q2 := cell_at G1.out (i := 2) rfl
  have q3 := cell_at G1.out (i := 3) rfl
  have q4 := cell_at G1.out (i := 4) rfl
  have f0 := free_at G1.out 0
  have f1 := free_at G1.out 1
  have f2 := free_at G1.out 2
  have f3 := free_at G1.out 3
  have f4 := free_at G1.out 4
  go_wp2
  have gne : g ≠ S1 := by
    intro e
    have h1 := CG.out
    rw [e, q0] at h1
    cases h1
  have hs1 : w.heap.size ≤ S1 := by have := HS.out; omega
  have G7a : (((((X3.setCell ⟨S1, 0, none⟩ (.int .i64 0)).setCell ⟨S1, 1, none⟩ (.bool false)).setCell ⟨S1, 2, none⟩ (.slice none 0 0)).setCell ⟨S1, 3, none⟩ (.slice (some ⟨g, 0, none⟩) 1 c)).setCell ⟨S1, 4, none⟩ (.slice none 0 0)).heap[S1]? = some (.cells #[.int .i64 0, .bool false, .slice none 0 0, .slice (some ⟨g, 0, none⟩) 1 c, .slice none 0 0] 43 (0, 0)) := by
    rw [heap_set (heap_set (heap_set (heap_set (heap_set G1.out))))]; rfl
  have K7 : Keeps (fun k => k = S1) X3 (((((X3.setCell ⟨S1, 0, none⟩ (.int .i64 0)).setCell ⟨S1, 1, none⟩ (.bool false)).setCell ⟨S1, 2, none⟩ (.slice none 0 0)).setCell ⟨S1, 3, none⟩ (.slice (some ⟨g, 0, none⟩) 1 c)).setCell ⟨S1, 4, none⟩ (.slice none 0 0)) := ((((((Keeps.refl (fun k => k = S1) X3).setCell (p := ⟨S1, 0, none⟩) (fun _ => rfl) _).setCell (p := ⟨S1, 1, none⟩) (fun _ => rfl) _).setCell (p := ⟨S1, 2, none⟩) (fun _ => rfl) _).setCell (p := ⟨S1, 3, none⟩) (fun _ => rfl) _).setCell (p := ⟨S1, 4, none⟩) (fun _ => rfl) _)
  have G7 := hid G7a
  have FIN := hid (And.intro GS.out.1 (And.intro (K7.cell CG.out gne) (And.intro (E4.out.new AP.out hs1 K7) (KP.out.then K7 (fun k hk (e : k = S1) => absurd hk (by omega))))))
  clear G7a K7 d0 d1 d2 d3 d4 q0 q1 q2 q3 q4 f0 f1 f2 f3 f4 CG KP E4 G1 G9 gne hs1
  generalize (((((X3.setCell ⟨S1, 0, none⟩ (.int .i64 0)).setCell ⟨S1, 1, none⟩ (.bool false)).setCell ⟨S1, 2, none⟩ (.slice none 0 0)).setCell ⟨S1, 3, none⟩ (.slice (some ⟨g, 0, none⟩) 1 c)).setCell ⟨S1, 4, none⟩ (.slice none 0 0)) = X4 at *
  try simp only [Exit.inBlock, Exit.then]
  refine bodyPost_ret (ret_cell_tmp rfl rfl G7.out Tryz.underlying43 rfl infReply) rfl ?_
  exact ⟨g, c, _, rfl, FIN.out⟩
end Go.Proofs.YtdhhaibefifdmaaGreatDoor
