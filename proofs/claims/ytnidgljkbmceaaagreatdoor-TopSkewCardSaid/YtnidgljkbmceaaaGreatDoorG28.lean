/- TopSkew's walks: the engine's Do. (printed by gen_do.py) -/
import Derived.Test.YtnidgljkbmceaaaGreatDoorPn
import Derived.Test.YtnidgljkbmceaaaGreatDoorG23
set_option linter.unusedVariables false
set_option linter.unusedSimpArgs false
namespace Go.Proofs.YtnidgljkbmceaaaGreatDoor
open Go.RowKit PrintLast Go.Maps Go.MapKept
set_option maxRecDepth 100000 in
set_option maxHeartbeats 12800000 in
theorem do_gf {w : World} {E L P hn : Nat} {a b a' b' : Cli} {hv : Value} {ra : Option Addr} {rn rc : Nat} {now kd cI : Int} {o : Nat} {bs : List Nat} {ts : List TypeId} {ms rs : List Nat} {ZZ : World → Prop} (hE : w.heap[E]? = some (.cells (engS L P a b hv now) 64 (0, 0))) (hw : ∀ (h : Value) (n : Int), (engS L P a b h n)[o + 2]? = some (.bool false)) (HOf : ∀ w1, Calls Tryz.prog 19 #[.pointer (some ⟨E, 0, none⟩), .int .i64 cI] w1 fun e w' => e = .returned (.pointer (some ⟨E, o, none⟩)) ∧ w1 = w') (hnow : 0 ≤ now ∧ now ≤ 1000) (hH : HistK w hv hn) (hn9 : hn ≤ 100)
    (ht : 42 ∉ ts ∧ 38 ∉ ts ∧ 81 ∉ ts)
    (HA : ∀ w3, w3.heap[E]? = some (.cells (engS L P a b hv (now + 1)) 64 (0, 0)) → KB [E] [64] [] [] w w3 → Calls Tryz.prog 20 #[.pointer (some ⟨E, 0, none⟩), .pointer (some ⟨E, o, none⟩), .agg #[.int .u8 kd, .int .i64 0, .slice ra rn rc, .string ⟨#[]⟩, .int .i64 0]] w3 fun e w' => e = .returned (.tuple #[okV, .bool false]) ∧ ZZ w' ∧ w'.heap[E]? = some (.cells (engS L P a' b' hv (now + 1)) 64 (0, 0)) ∧ KB bs ts ms rs w3 w')
    (HC : ∀ w1, KT (64 :: ts) ms rs w w1 → Calls Tryz.prog 21 #[.agg #[.int .u8 kd, .int .i64 0, .slice ra rn rc, .string ⟨#[]⟩, .int .i64 0]] w1 fun e w' => ∃ Aq nq cq, e = .returned (.agg #[.int .u8 kd, .int .i64 0, .slice Aq nq cq, .string ⟨#[]⟩, .int .i64 0]) ∧ Below w1.heap.size w1 w') :
    Calls Tryz.prog 8 #[.pointer (some ⟨E, 0, none⟩), .int .i64 cI, .agg #[.int .u8 kd, .int .i64 0, .slice ra rn rc, .string ⟨#[]⟩, .int .i64 0]] w fun e w' => e = .returned (.tuple #[okV, .bool false]) ∧ ∃ w4 hv', ZZ w4 ∧ KT [64, 81, 38] [] [] w4 w' ∧ w'.heap[E]? = some (.cells (engS L P a' b' hv' (now + 1)) 64 (0, 0)) ∧ HistK w' hv' (hn + 1) ∧ KB (E :: (hv.ownBlock.toList ++ bs)) (64 :: 81 :: ts) ms rs w w' ∧ (∀ k, hv'.ownBlock = some k → hv.ownBlock = some k ∨ w.heap.size ≤ k) := by
  obtain ⟨S, hS⟩ : ∃ S, S = w.heap.size := ⟨_, rfl⟩
  obtain ⟨S1, hS1⟩ : ∃ S1, S1 = S + 1 := ⟨_, rfl⟩
  obtain ⟨m, hm⟩ : ∃ m, m = now + 1 := ⟨_, rfl⟩
  have wm : wrap64 (now + 1) = m := by rw [hm]; unfold wrap64; omega
  obtain ⟨w1, hw1⟩ : ∃ w1, w1 = (w.alloc (.cells #[.int .u8 kd, .int .i64 0, .slice ra rn rc, .string ⟨#[]⟩, .int .i64 0] 42)).alloc (.cells #[.int .i64 0, .bool false, .slice none 0 0, .slice none 0 0, .slice none 0 0] 38) := ⟨_, rfl⟩
  have b1 : Below w.heap.size w w1 := by rw [hw1]; exact below_alloc (below_alloc (Below.refl _ _) _) _
  have g1 : w1.heap[S1]? = some (.cells #[.int .i64 0, .bool false, .slice none 0 0, .slice none 0 0, .slice none 0 0] 38 (0, 0)) := by
    rw [hw1, hS1, hS]
    have := heap_alloc_new (w.alloc (.cells #[.int .u8 kd, .int .i64 0, .slice ra rn rc, .string ⟨#[]⟩, .int .i64 0] 42)) (.cells #[.int .i64 0, .bool false, .slice none 0 0, .slice none 0 0, .slice none 0 0] 38)
    rw [show (w.alloc (.cells #[.int .u8 kd, .int .i64 0, .slice ra rn rc, .string ⟨#[]⟩, .int .i64 0] 42)).heap.size = w.heap.size + 1 by simp] at this
    exact this
  have g0 : w1.heap[S]? = some (.cells #[.int .u8 kd, .int .i64 0, .slice ra rn rc, .string ⟨#[]⟩, .int .i64 0] 42 (0, 0)) := by
    rw [hw1, hS]; exact below_heap (below_alloc (Below.refl _ _) _) (heap_alloc_new _ _)
  have e1 := below_heap b1 hE
  obtain ⟨w3, hw3⟩ : ∃ w3, w3 = w1.setCell ⟨E, 75, none⟩ (.int .i64 m) := ⟨_, rfl⟩
  have e3 : w3.heap[E]? = some (.cells (engS L P a b hv m) 64 (0, 0)) := by rw [hw3]; exact (heap_set e1).trans rfl
  have k03 : KB [E] [64] [] [] w w3 := by rw [hw3]; exact (KB.of_below b1).set (p := ⟨E, 75, none⟩) hE (by simp) (by simp) _
  have k13 : KT [64] [] [] w1 w3 := by rw [hw3]; exact (KT.refl _ _ _ _).set (p := ⟨E, 75, none⟩) e1 (by simp) _
  have HO0 := HOf w1
  have HO := hid HO0
  have HN := hid (HA w3 (by rw [e3, hm]) k03)
  have G3 := hid (And.intro (k13.cells g0 (by decide)) (And.intro (k13.cells g1 (by decide)) (And.intro k03 (And.intro hH (And.intro hE (And.intro hn9 ht))))))
  have HCC := hid HC
  have HM := hid hm
  have HW := hid hw1
  have HW3 := hid hw3
  have HS := hid (show S1 = w.heap.size + 1 by rw [hS1, hS])
  have HS0 := hid hS
  have k31 := cell_at e1 (hw hv now)
  have k75 := cell_at e1 (i := 75) (v := .int .i64 now) rfl
  have f75 := free_at e1 75
  clear hE hw HOf hnow hH hn9 ht HA HC hm hw1 hS hS1 b1 g0 g1 e1 hw3 k03 k13 HO0
  have c0 := cell_at G3.out.1 (i := 0) rfl
  have c1 := cell_at G3.out.1 (i := 1) rfl
  have c2 := cell_at G3.out.1 (i := 2) rfl
  have c3 := cell_at G3.out.1 (i := 3) rfl
  have c4 := cell_at G3.out.1 (i := 4) rfl
  have E3 := hid e3
  clear e3
  go_enter Tryz.func8, Tryz.ntmps8
  go_upto_region 1 with fail
  rw [← HS.out, ← HS0.out, ← HW.out]
  go_wp2_with fail
  refine HO.out.mono ?_
  rintro e w2 ⟨rfl, rfl⟩
  clear HO
  go_upto_region 9 with fail
  rw [← HW3.out]
  clear HW3 k31 k75 f75
  go_wp2_with fail
  with_reducible refine HN.out.mono ?_
  unfold okV
  rintro e w4 ⟨rfl, zz, e4, k34⟩
  rw [← HM.out] at e4
  have K04 : KB (E :: (hv.ownBlock.toList ++ bs)) (64 :: 81 :: ts) ms rs w w4 := (G3.out.2.2.1.mono (bs' := E :: (hv.ownBlock.toList ++ bs)) (ts' := 64 :: 81 :: ts) (ms' := ms) (rs' := rs) (by simp) (by simp) (by simp) (by simp)).then k34 (by intro x hx _; simp [hx]) (by intro x hx; simp [hx]) (fun _ q _ => q) (fun _ q _ => q)
  have G0 := hid (k34.1.cells G3.out.1 ⟨G3.out.2.2.2.2.2.2.1, by decide⟩)
  have G1 := hid (k34.1.cells G3.out.2.1 ⟨G3.out.2.2.2.2.2.2.2.1, by decide⟩)
  have H4 := hid ((G3.out.2.2.2.1.keeps G3.out.2.2.1.1 (by decide)).keeps k34.1 G3.out.2.2.2.2.2.2.2.2)
  have C4 := hid (show KT (64 :: ts) ms rs w w4 from (G3.out.2.2.1.1.mono (ts' := 64 :: ts) (ms' := ms) (rs' := rs) (by simp) (by simp) (by simp)).then k34.1 (by intro x hx; simp [hx]) (fun _ q _ => q) (fun _ q _ => q))
  have Z4 := hid (And.intro zz (KT.refl [64, 81, 38] [] [] w4))
  have E4 := hid e4
  have KP := hid K04
  clear HN zz e4 k34 K04 c0 c1 c2 c3 c4 E3
  go_upto_region 10 with fail
  obtain ⟨S9, hS9⟩ : ∃ S9, S9 = w4.heap.size := ⟨_, rfl⟩
  have al := below_alloc (Below.refl _ w4) (.cells #[.int .i64 0, .bool false, .slice none 0 0, .slice none 0 0, .slice none 0 0] 38)
  have g9 := heap_alloc_new w4 (.cells #[.int .i64 0, .bool false, .slice none 0 0, .slice none 0 0, .slice none 0 0] 38)
  rw [← hS9] at g9
  rw [← hS9]
  have SZ := hid (show S1 < S9 ∧ S < S9 ∧ w.heap.size ≤ S1 ∧ E < S9 ∧ S1 ≠ E by
    have := lt_of_block G1.out; have := lt_of_block G0.out; have := lt_of_block E4.out; have := HS.out; have := lt_of_block G3.out.2.2.2.2.1; omega)
  have G9 := hid g9
  replace G0 := hid (below_heap al G0.out)
  replace G1 := hid (below_heap al G1.out)
  replace E4 := hid (below_heap al E4.out)
  replace H4 := hid (H4.out.keeps (KT.of_below (ts := []) (ms := []) (rs := []) al) (by decide))
  replace C4 := hid (C4.out.below al)
  replace Z4 := hid (And.intro Z4.out.1 (Z4.out.2.below al))
  replace KP := hid (KP.out.below al)
  have SW := hid (show w.heap.size ≤ S9 ∧ w4.heap.size ≤ S9 by have := HS.out; have := SZ.out; omega)
  clear g9 hS9
  generalize hw5 : w4.alloc (.cells #[.int .i64 0, .bool false, .slice none 0 0, .slice none 0 0, .slice none 0 0] 38) = w5 at *
  have SW5 := hid (show w4.heap.size < w5.heap.size by rw [← hw5]; simp)
  clear hw5
  have c0 := cell_at G0.out (i := 0) rfl
  have c1 := cell_at G0.out (i := 1) rfl
  have c2 := cell_at G0.out (i := 2) rfl
  have c3 := cell_at G0.out (i := 3) rfl
  have c4 := cell_at G0.out (i := 4) rfl
  have d0 := cell_at G9.out (i := 0) rfl
  have d1 := cell_at G9.out (i := 1) rfl
  have d2 := cell_at G9.out (i := 2) rfl
  have d3 := cell_at G9.out (i := 3) rfl
  have d4 := cell_at G9.out (i := 4) rfl
  have k75 := cell_at E4.out (i := 75) (v := .int .i64 m) rfl
  have HCP := hid (fun (wz : World) (hz : Below w5.heap.size w5 wz) => HCC.out wz (C4.out.below hz))
  have NR : ∀ {w1 : World} (g : Nat), Below w5.heap.size w5 w1 → w1.heap.size = g → (w1.alloc (.cells #[.int .i64 0, .int .u8 0, .int .i64 0, .slice none 0 0, .string ⟨#[]⟩, .int .i64 0, .int .i64 0, .bool false, .slice none 0 0, .slice none 0 0, .slice none 0 0, .int .i64 0, .int .i64 0, .int .i64 0, .int .i64 0] 81)).heap[g]? = some (.cells #[.int .i64 0, .int .u8 0, .int .i64 0, .slice none 0 0, .string ⟨#[]⟩, .int .i64 0, .int .i64 0, .bool false, .slice none 0 0, .slice none 0 0, .slice none 0 0, .int .i64 0, .int .i64 0, .int .i64 0, .int .i64 0] 81) := fun g _ e => by subst e; exact heap_alloc_new _ _
  go_wp2
  refine start_ (n := 11) (S := fun w' => w'.cell? ⟨S, 0, none⟩ = some (.int .u8 kd) ∧ w'.cell? ⟨S, 1, none⟩ = some (.int .i64 0) ∧ w'.cell? ⟨S, 2, none⟩ = some (.slice ra rn rc) ∧ w'.cell? ⟨S, 3, none⟩ = some (.string ⟨#[]⟩) ∧ w'.cell? ⟨S, 4, none⟩ = some (.int .i64 0) ∧ w'.cell? ⟨S9, 0, none⟩ = some (.int .i64 0) ∧ w'.cell? ⟨S9, 1, none⟩ = some (.bool false) ∧ w'.cell? ⟨S9, 2, none⟩ = some (.slice none 0 0) ∧ w'.cell? ⟨S9, 3, none⟩ = some (.slice none 0 0) ∧ w'.cell? ⟨S9, 4, none⟩ = some (.slice none 0 0) ∧ w'.cell? ⟨E, 75, none⟩ = some (.int .i64 m) ∧ Below w5.heap.size w5 w') (ds := [10]) (tf 11 0) (by kernel_rfl) rfl rfl ⟨c0, c1, c2, c3, c4, d0, d1, d2, d3, d4, k75, (Below.refl w5.heap.size w5).drew⟩ (fun hHeld => ?_); refine pure_ (i := 0) (N := some 43) (v := ?_) (a' := ?_) (tf 11 1) rfl rfl (by kernel_rfl) (fun _ _ _ h => h) (Or.inl ⟨by rfl, ?_⟩) ?_ ?_; rotate_left; (· intro w'; go_simp; (with_reducible rfl)); rotate_left; (· simp only [pn_]; rfl); refine pure_ (i := 4) (N := some 47) (v := ?_) (a' := ?_) (tf 11 17) rfl rfl (by kernel_rfl) (fun _ _ _ h => h) (Or.inl ⟨by rfl, ?_⟩) ?_ ?_; rotate_left; (· intro w'; go_simp; (with_reducible rfl)); rotate_left; (· simp only [pn_]; rfl); refine pure_ (i := 5) (N := some 48) (v := ?_) (a' := ?_) (tf 11 49) rfl rfl (by kernel_rfl) (fun _ _ _ h => h) (Or.inl ⟨by rfl, ?_⟩) ?_ ?_; rotate_left; (· intro w'; go_simp; (with_reducible rfl)); rotate_left; (· simp only [pn_]; rfl); refine pure_ (i := 6) (N := some 49) (v := ?_) (a' := ?_) (tf 11 113) rfl rfl (by kernel_rfl) (fun _ _ _ h => h) (Or.inl ⟨by rfl, ?_⟩) ?_ ?_; rotate_left; (· intro w'; go_simp; (with_reducible rfl)); rotate_left; (· simp only [pn_]; rfl); refine take_ (i := 1) (N := some 44) (v := ?_) (a' := ?_) (tf 11 115) rfl rfl (by kernel_rfl) (fun _ _ _ h => h) (Or.inl ⟨by rfl, ?_⟩) hHeld ?_ ?_; rotate_left; (· rintro w' ⟨s0, s1, s2, s3, s4, s5, s6, s7, s8, s9, s10, s11⟩; go_simp; (with_reducible rfl)); rotate_left; (· simp only [pn_]; rfl); refine take_ (i := 3) (N := some 46) (v := ?_) (a' := ?_) (tf 11 123) rfl rfl (by kernel_rfl) (fun _ _ _ h => h) (Or.inl ⟨by rfl, ?_⟩) hHeld ?_ ?_; rotate_left; (· rintro w' ⟨s0, s1, s2, s3, s4, s5, s6, s7, s8, s9, s10, s11⟩; go_simp; (with_reducible rfl)); rotate_left; (· simp only [pn_]; rfl); refine take_ (i := 7) (N := some 50) (v := ?_) (a' := ?_) (tf 11 251) rfl rfl (by kernel_rfl) (fun _ _ _ h => h) (Or.inl ⟨by rfl, ?_⟩) hHeld ?_ ?_; rotate_left; (· rintro w' ⟨s0, s1, s2, s3, s4, s5, s6, s7, s8, s9, s10, s11⟩; go_simp; (with_reducible rfl)); rotate_left; (· simp only [pn_]; rfl); refine join_ (σ := Nat × Option Addr × Nat × Nat) 1 (tf 11 1023) (fun s => [(45, .agg #[.int .u8 kd, .int .i64 0, .slice s.2.1 s.2.2.1 s.2.2.2, .string ⟨#[]⟩, .int .i64 0]), (11, .pointer (some ⟨s.1, 0, none⟩)), (51, .agg #[.int .i64 cI, .int .u8 kd, .int .i64 0, .slice s.2.1 s.2.2.1 s.2.2.2, .string ⟨#[]⟩, .int .i64 0, .int .i64 0, .bool false, .slice none 0 0, .slice none 0 0, .slice none 0 0, .int .i64 m, .int .i64 0, .int .i64 0, .int .i64 0])]) (fun s w' => w'.heap[s.1]? = some (.cells #[.int .i64 0, .int .u8 0, .int .i64 0, .slice none 0 0, .string ⟨#[]⟩, .int .i64 0, .int .i64 0, .bool false, .slice none 0 0, .slice none 0 0, .slice none 0 0, .int .i64 0, .int .i64 0, .int .i64 0, .int .i64 0] 81) ∧ w5.heap.size ≤ s.1 ∧ w'.cell? ⟨S, 0, none⟩ = some (.int .u8 kd) ∧ w'.cell? ⟨S, 1, none⟩ = some (.int .i64 0) ∧ w'.cell? ⟨S, 2, none⟩ = some (.slice ra rn rc) ∧ w'.cell? ⟨S, 3, none⟩ = some (.string ⟨#[]⟩) ∧ w'.cell? ⟨S, 4, none⟩ = some (.int .i64 0) ∧ w'.cell? ⟨S9, 0, none⟩ = some (.int .i64 0) ∧ w'.cell? ⟨S9, 1, none⟩ = some (.bool false) ∧ w'.cell? ⟨S9, 2, none⟩ = some (.slice none 0 0) ∧ w'.cell? ⟨S9, 3, none⟩ = some (.slice none 0 0) ∧ w'.cell? ⟨S9, 4, none⟩ = some (.slice none 0 0) ∧ w'.cell? ⟨E, 75, none⟩ = some (.int .i64 m) ∧ Below w5.heap.size w5 w') ?_ ?_; rotate_left
  · intro hCont
    refine two_ (i := 2) (j := 9) (Ni := some 45) (Nj := some 11) (tf 11 255) (tf 11 763) rfl rfl rfl rfl (by kernel_rfl) (by decide) (by decide) (fun K hK => ?_) (fun K hK => ?_)
    · skip
      refine goes_ Tryz.func21 (by kernel_rfl) rfl #[.agg #[.int .u8 kd, .int .i64 0, .slice ra rn rc, .string ⟨#[]⟩, .int .i64 0]] (by rfl) rfl rfl (by simp only [List.map_toArray, List.map_cons, List.map_nil]; rfl) ?_; (with_reducible refine ((HCP.out _ hHeld.2.2.2.2.2.2.2.2.2.2.2)).mono ?_); rintro e' wy ⟨Aq, nq, cq, rfl, by_⟩; refine ⟨_, rfl, ?_⟩; refine hK.out _ _ ⟨(below_cell by_ hHeld.1), (below_cell by_ hHeld.2.1), (below_cell by_ hHeld.2.2.1), (below_cell by_ hHeld.2.2.2.1), (below_cell by_ hHeld.2.2.2.2.1), (below_cell by_ hHeld.2.2.2.2.2.1), (below_cell by_ hHeld.2.2.2.2.2.2.1), (below_cell by_ hHeld.2.2.2.2.2.2.2.1), (below_cell by_ hHeld.2.2.2.2.2.2.2.2.1), (below_cell by_ hHeld.2.2.2.2.2.2.2.2.2.1), (below_cell by_ hHeld.2.2.2.2.2.2.2.2.2.2.1), (below_then hHeld.2.2.2.2.2.2.2.2.2.2.2 by_)⟩ (fun hHeld => ?_); clear hK K; refine norm_ (a' := ?_) ?_ ?_; rotate_left; (· show Act.put _ (some 45) _ = _; simp only [pn_]; rfl); refine pure_ (i := 8) (N := some 51) (v := ?_) (a' := ?_) (tf 11 511) rfl rfl (by kernel_rfl) (fun _ _ _ h => h) (Or.inl ⟨by rfl, ?_⟩) ?_ ?_; rotate_left; (· intro w'; go_simp; (with_reducible rfl)); rotate_left; (· simp only [pn_]; rfl); refine one_ (i := 9) (N := some 11) (tf 11 1023) rfl rfl (by kernel_rfl) (by decide) (fun K hK => ?_); refine value_ (w1 := ?_) (v := ?_) (by rfl) rfl ?_ ?_; rotate_left 2; (· go_simp; constructor; (· rfl); (· rfl)); have kT := NR wy.heap.size hHeld.2.2.2.2.2.2.2.2.2.2.2 (by simp); refine hK.out _ _ ⟨(below_cell (below_alloc (Below.refl _ _) (.cells #[.int .i64 0, .int .u8 0, .int .i64 0, .slice none 0 0, .string ⟨#[]⟩, .int .i64 0, .int .i64 0, .bool false, .slice none 0 0, .slice none 0 0, .slice none 0 0, .int .i64 0, .int .i64 0, .int .i64 0, .int .i64 0] 81)) hHeld.1), (below_cell (below_alloc (Below.refl _ _) (.cells #[.int .i64 0, .int .u8 0, .int .i64 0, .slice none 0 0, .string ⟨#[]⟩, .int .i64 0, .int .i64 0, .bool false, .slice none 0 0, .slice none 0 0, .slice none 0 0, .int .i64 0, .int .i64 0, .int .i64 0, .int .i64 0] 81)) hHeld.2.1), (below_cell (below_alloc (Below.refl _ _) (.cells #[.int .i64 0, .int .u8 0, .int .i64 0, .slice none 0 0, .string ⟨#[]⟩, .int .i64 0, .int .i64 0, .bool false, .slice none 0 0, .slice none 0 0, .slice none 0 0, .int .i64 0, .int .i64 0, .int .i64 0, .int .i64 0] 81)) hHeld.2.2.1), (below_cell (below_alloc (Below.refl _ _) (.cells #[.int .i64 0, .int .u8 0, .int .i64 0, .slice none 0 0, .string ⟨#[]⟩, .int .i64 0, .int .i64 0, .bool false, .slice none 0 0, .slice none 0 0, .slice none 0 0, .int .i64 0, .int .i64 0, .int .i64 0, .int .i64 0] 81)) hHeld.2.2.2.1), (below_cell (below_alloc (Below.refl _ _) (.cells #[.int .i64 0, .int .u8 0, .int .i64 0, .slice none 0 0, .string ⟨#[]⟩, .int .i64 0, .int .i64 0, .bool false, .slice none 0 0, .slice none 0 0, .slice none 0 0, .int .i64 0, .int .i64 0, .int .i64 0, .int .i64 0] 81)) hHeld.2.2.2.2.1), (below_cell (below_alloc (Below.refl _ _) (.cells #[.int .i64 0, .int .u8 0, .int .i64 0, .slice none 0 0, .string ⟨#[]⟩, .int .i64 0, .int .i64 0, .bool false, .slice none 0 0, .slice none 0 0, .slice none 0 0, .int .i64 0, .int .i64 0, .int .i64 0, .int .i64 0] 81)) hHeld.2.2.2.2.2.1), (below_cell (below_alloc (Below.refl _ _) (.cells #[.int .i64 0, .int .u8 0, .int .i64 0, .slice none 0 0, .string ⟨#[]⟩, .int .i64 0, .int .i64 0, .bool false, .slice none 0 0, .slice none 0 0, .slice none 0 0, .int .i64 0, .int .i64 0, .int .i64 0, .int .i64 0] 81)) hHeld.2.2.2.2.2.2.1), (below_cell (below_alloc (Below.refl _ _) (.cells #[.int .i64 0, .int .u8 0, .int .i64 0, .slice none 0 0, .string ⟨#[]⟩, .int .i64 0, .int .i64 0, .bool false, .slice none 0 0, .slice none 0 0, .slice none 0 0, .int .i64 0, .int .i64 0, .int .i64 0, .int .i64 0] 81)) hHeld.2.2.2.2.2.2.2.1), (below_cell (below_alloc (Below.refl _ _) (.cells #[.int .i64 0, .int .u8 0, .int .i64 0, .slice none 0 0, .string ⟨#[]⟩, .int .i64 0, .int .i64 0, .bool false, .slice none 0 0, .slice none 0 0, .slice none 0 0, .int .i64 0, .int .i64 0, .int .i64 0, .int .i64 0] 81)) hHeld.2.2.2.2.2.2.2.2.1), (below_cell (below_alloc (Below.refl _ _) (.cells #[.int .i64 0, .int .u8 0, .int .i64 0, .slice none 0 0, .string ⟨#[]⟩, .int .i64 0, .int .i64 0, .bool false, .slice none 0 0, .slice none 0 0, .slice none 0 0, .int .i64 0, .int .i64 0, .int .i64 0, .int .i64 0] 81)) hHeld.2.2.2.2.2.2.2.2.2.1), (below_cell (below_alloc (Below.refl _ _) (.cells #[.int .i64 0, .int .u8 0, .int .i64 0, .slice none 0 0, .string ⟨#[]⟩, .int .i64 0, .int .i64 0, .bool false, .slice none 0 0, .slice none 0 0, .slice none 0 0, .int .i64 0, .int .i64 0, .int .i64 0, .int .i64 0] 81)) hHeld.2.2.2.2.2.2.2.2.2.2.1), (below_then hHeld.2.2.2.2.2.2.2.2.2.2.2 (below_alloc (Below.refl _ _) (.cells #[.int .i64 0, .int .u8 0, .int .i64 0, .slice none 0 0, .string ⟨#[]⟩, .int .i64 0, .int .i64 0, .bool false, .slice none 0 0, .slice none 0 0, .slice none 0 0, .int .i64 0, .int .i64 0, .int .i64 0, .int .i64 0] 81)))⟩ (fun hHeld => ?_); clear hK K; refine norm_ (a' := ?_) ?_ ?_; rotate_left; (· show Act.put _ (some 11) _ = _; simp only [pn_]; rfl); exact norm_ (by first | (simp only [putAll, Act.put, List.setIfInBounds_toArray, List.set_cons_zero, List.set_cons_succ]; done) | (simp only [putAll, Act.put, List.setIfInBounds_toArray, List.set_cons_zero, List.set_cons_succ]; rfl)) (hCont (wy.heap.size, Aq, nq, cq) _ ⟨kT, (show w5.heap.size ≤ wy.heap.size from by_.size), hHeld⟩)
    · skip
      refine value_ (w1 := ?_) (v := ?_) (by rfl) rfl ?_ ?_; rotate_left 2; (· go_simp; constructor; (· rfl); (· rfl)); have kT := NR w5.heap.size hHeld.2.2.2.2.2.2.2.2.2.2.2 (by simp); refine hK.out _ _ ⟨(below_cell (below_alloc (Below.refl _ _) (.cells #[.int .i64 0, .int .u8 0, .int .i64 0, .slice none 0 0, .string ⟨#[]⟩, .int .i64 0, .int .i64 0, .bool false, .slice none 0 0, .slice none 0 0, .slice none 0 0, .int .i64 0, .int .i64 0, .int .i64 0, .int .i64 0] 81)) hHeld.1), (below_cell (below_alloc (Below.refl _ _) (.cells #[.int .i64 0, .int .u8 0, .int .i64 0, .slice none 0 0, .string ⟨#[]⟩, .int .i64 0, .int .i64 0, .bool false, .slice none 0 0, .slice none 0 0, .slice none 0 0, .int .i64 0, .int .i64 0, .int .i64 0, .int .i64 0] 81)) hHeld.2.1), (below_cell (below_alloc (Below.refl _ _) (.cells #[.int .i64 0, .int .u8 0, .int .i64 0, .slice none 0 0, .string ⟨#[]⟩, .int .i64 0, .int .i64 0, .bool false, .slice none 0 0, .slice none 0 0, .slice none 0 0, .int .i64 0, .int .i64 0, .int .i64 0, .int .i64 0] 81)) hHeld.2.2.1), (below_cell (below_alloc (Below.refl _ _) (.cells #[.int .i64 0, .int .u8 0, .int .i64 0, .slice none 0 0, .string ⟨#[]⟩, .int .i64 0, .int .i64 0, .bool false, .slice none 0 0, .slice none 0 0, .slice none 0 0, .int .i64 0, .int .i64 0, .int .i64 0, .int .i64 0] 81)) hHeld.2.2.2.1), (below_cell (below_alloc (Below.refl _ _) (.cells #[.int .i64 0, .int .u8 0, .int .i64 0, .slice none 0 0, .string ⟨#[]⟩, .int .i64 0, .int .i64 0, .bool false, .slice none 0 0, .slice none 0 0, .slice none 0 0, .int .i64 0, .int .i64 0, .int .i64 0, .int .i64 0] 81)) hHeld.2.2.2.2.1), (below_cell (below_alloc (Below.refl _ _) (.cells #[.int .i64 0, .int .u8 0, .int .i64 0, .slice none 0 0, .string ⟨#[]⟩, .int .i64 0, .int .i64 0, .bool false, .slice none 0 0, .slice none 0 0, .slice none 0 0, .int .i64 0, .int .i64 0, .int .i64 0, .int .i64 0] 81)) hHeld.2.2.2.2.2.1), (below_cell (below_alloc (Below.refl _ _) (.cells #[.int .i64 0, .int .u8 0, .int .i64 0, .slice none 0 0, .string ⟨#[]⟩, .int .i64 0, .int .i64 0, .bool false, .slice none 0 0, .slice none 0 0, .slice none 0 0, .int .i64 0, .int .i64 0, .int .i64 0, .int .i64 0] 81)) hHeld.2.2.2.2.2.2.1), (below_cell (below_alloc (Below.refl _ _) (.cells #[.int .i64 0, .int .u8 0, .int .i64 0, .slice none 0 0, .string ⟨#[]⟩, .int .i64 0, .int .i64 0, .bool false, .slice none 0 0, .slice none 0 0, .slice none 0 0, .int .i64 0, .int .i64 0, .int .i64 0, .int .i64 0] 81)) hHeld.2.2.2.2.2.2.2.1), (below_cell (below_alloc (Below.refl _ _) (.cells #[.int .i64 0, .int .u8 0, .int .i64 0, .slice none 0 0, .string ⟨#[]⟩, .int .i64 0, .int .i64 0, .bool false, .slice none 0 0, .slice none 0 0, .slice none 0 0, .int .i64 0, .int .i64 0, .int .i64 0, .int .i64 0] 81)) hHeld.2.2.2.2.2.2.2.2.1), (below_cell (below_alloc (Below.refl _ _) (.cells #[.int .i64 0, .int .u8 0, .int .i64 0, .slice none 0 0, .string ⟨#[]⟩, .int .i64 0, .int .i64 0, .bool false, .slice none 0 0, .slice none 0 0, .slice none 0 0, .int .i64 0, .int .i64 0, .int .i64 0, .int .i64 0] 81)) hHeld.2.2.2.2.2.2.2.2.2.1), (below_cell (below_alloc (Below.refl _ _) (.cells #[.int .i64 0, .int .u8 0, .int .i64 0, .slice none 0 0, .string ⟨#[]⟩, .int .i64 0, .int .i64 0, .bool false, .slice none 0 0, .slice none 0 0, .slice none 0 0, .int .i64 0, .int .i64 0, .int .i64 0, .int .i64 0] 81)) hHeld.2.2.2.2.2.2.2.2.2.2.1), (below_then hHeld.2.2.2.2.2.2.2.2.2.2.2 (below_alloc (Below.refl _ _) (.cells #[.int .i64 0, .int .u8 0, .int .i64 0, .slice none 0 0, .string ⟨#[]⟩, .int .i64 0, .int .i64 0, .bool false, .slice none 0 0, .slice none 0 0, .slice none 0 0, .int .i64 0, .int .i64 0, .int .i64 0, .int .i64 0] 81)))⟩ (fun hHeld => ?_); clear hK K; refine norm_ (a' := ?_) ?_ ?_; rotate_left; (· show Act.put _ (some 11) _ = _; simp only [pn_]; rfl); refine one_ (i := 2) (N := some 45) (tf 11 767) rfl rfl (by kernel_rfl) (by decide) (fun K hK => ?_); refine goes_ Tryz.func21 (by kernel_rfl) rfl #[.agg #[.int .u8 kd, .int .i64 0, .slice ra rn rc, .string ⟨#[]⟩, .int .i64 0]] (by rfl) rfl rfl (by simp only [List.map_toArray, List.map_cons, List.map_nil]; rfl) ?_; (with_reducible refine ((HCP.out _ hHeld.2.2.2.2.2.2.2.2.2.2.2)).mono ?_); rintro e' wy ⟨Aq, nq, cq, rfl, by_⟩; refine ⟨_, rfl, ?_⟩
      replace kT := below_heap by_ kT
      refine hK.out _ _ ⟨(below_cell by_ hHeld.1), (below_cell by_ hHeld.2.1), (below_cell by_ hHeld.2.2.1), (below_cell by_ hHeld.2.2.2.1), (below_cell by_ hHeld.2.2.2.2.1), (below_cell by_ hHeld.2.2.2.2.2.1), (below_cell by_ hHeld.2.2.2.2.2.2.1), (below_cell by_ hHeld.2.2.2.2.2.2.2.1), (below_cell by_ hHeld.2.2.2.2.2.2.2.2.1), (below_cell by_ hHeld.2.2.2.2.2.2.2.2.2.1), (below_cell by_ hHeld.2.2.2.2.2.2.2.2.2.2.1), (below_then hHeld.2.2.2.2.2.2.2.2.2.2.2 by_)⟩ (fun hHeld => ?_); clear hK K; refine norm_ (a' := ?_) ?_ ?_; rotate_left; (· show Act.put _ (some 45) _ = _; simp only [pn_]; rfl); refine pure_ (i := 8) (N := some 51) (v := ?_) (a' := ?_) (tf 11 1023) rfl rfl (by kernel_rfl) (fun _ _ _ h => h) (Or.inl ⟨by rfl, ?_⟩) ?_ ?_; rotate_left; (· intro w'; go_simp; (with_reducible rfl)); rotate_left; (· simp only [pn_]; rfl); exact norm_ (by first | (simp only [putAll, Act.put, List.setIfInBounds_toArray, List.set_cons_zero, List.set_cons_succ]; done) | (simp only [putAll, Act.put, List.setIfInBounds_toArray, List.set_cons_zero, List.set_cons_succ]; rfl)) (hCont (w5.heap.size, Aq, nq, cq) _ ⟨kT, Nat.le_refl _, hHeld⟩)
  rintro ⟨T, Aq, nq, cq⟩ wn ⟨kT, tS, hHeld⟩; have kT : wn.heap[T]? = some (.cells #[.int .i64 0, .int .u8 0, .int .i64 0, .slice none 0 0, .string ⟨#[]⟩, .int .i64 0, .int .i64 0, .bool false, .slice none 0 0, .slice none 0 0, .slice none 0 0, .int .i64 0, .int .i64 0, .int .i64 0, .int .i64 0] 81) := kT; have bn := hHeld.2.2.2.2.2.2.2.2.2.2.2; have x0 := cell_at kT (i := 0) rfl; have x1 := cell_at kT (i := 1) rfl; have x2 := cell_at kT (i := 2) rfl; have x3 := cell_at kT (i := 3) rfl; have x4 := cell_at kT (i := 4) rfl; have x5 := cell_at kT (i := 5) rfl; have x6 := cell_at kT (i := 6) rfl; have x7 := cell_at kT (i := 7) rfl; have x8 := cell_at kT (i := 8) rfl; have x9 := cell_at kT (i := 9) rfl; have x10 := cell_at kT (i := 10) rfl; have x11 := cell_at kT (i := 11) rfl; have x12 := cell_at kT (i := 12) rfl; have x13 := cell_at kT (i := 13) rfl; have x14 := cell_at kT (i := 14) rfl; have y0 := free_at kT 0; have y1 := free_at kT 1; have y2 := free_at kT 2; have y3 := free_at kT 3; have y4 := free_at kT 4; have y5 := free_at kT 5; have y6 := free_at kT 6; have y7 := free_at kT 7; have y8 := free_at kT 8; have y9 := free_at kT 9; have y10 := free_at kT 10; have y11 := free_at kT 11; have y12 := free_at kT 12; have y13 := free_at kT 13; have y14 := free_at kT 14; refine norm_ (a' := ?_) ?_ ?_; rotate_left; (· simp only [putAll, Act.put, List.setIfInBounds_toArray, List.set_cons_zero, List.set_cons_succ]; rfl); refine last_ (i := 10) (N := none) (tf 11 2047) rfl rfl (by kernel_rfl) (by decide) (fun K hK => ?_); refine skip_ (w1 := ?_) (by rfl) rfl ?_ ?_; rotate_left; (· go_simp; rfl); refine hK.out _ _ ?_; clear hK K; refine done_ (by kernel_rfl) ?_
  obtain ⟨X1, hX1⟩ : ∃ y, y = (((((((((((((((wn.setCell ⟨T, 0, none⟩ (.int .i64 cI)).setCell ⟨T, 1, none⟩ (.int .u8 kd)).setCell ⟨T, 2, none⟩ (.int .i64 0)).setCell ⟨T, 3, none⟩ (.slice Aq nq cq)).setCell ⟨T, 4, none⟩ (.string ⟨#[]⟩)).setCell ⟨T, 5, none⟩ (.int .i64 0)).setCell ⟨T, 6, none⟩ (.int .i64 0)).setCell ⟨T, 7, none⟩ (.bool false)).setCell ⟨T, 8, none⟩ (.slice none 0 0)).setCell ⟨T, 9, none⟩ (.slice none 0 0)).setCell ⟨T, 10, none⟩ (.slice none 0 0)).setCell ⟨T, 11, none⟩ (.int .i64 m)).setCell ⟨T, 12, none⟩ (.int .i64 0)).setCell ⟨T, 13, none⟩ (.int .i64 0)).setCell ⟨T, 14, none⟩ (.int .i64 0)) := ⟨_, rfl⟩
  have gT : X1.heap[T]? = some (.cells #[.int .i64 cI, .int .u8 kd, .int .i64 0, .slice Aq nq cq, .string ⟨#[]⟩, .int .i64 0, .int .i64 0, .bool false, .slice none 0 0, .slice none 0 0, .slice none 0 0, .int .i64 m, .int .i64 0, .int .i64 0, .int .i64 0] 81) := by
    rw [hX1]; exact set15_heap kT
  have bX : Below w5.heap.size w5 X1 := by
    rw [hX1]
    exact set15_below bn tS
  rw [← hX1]
  have TS := hid tS
  clear hX1 kT tS bn hHeld c0 c1 c2 c3 c4 d0 d1 d2 d3 d4 k75 HCP NR al x0 y0 x1 y1 x2 y2 x3 y3 x4 y4 x5 y5 x6 y6 x7 y7 x8 y8 x9 y9 x10 y10 x11 y11 x12 y12 x13 y13 x14 y14
  obtain ⟨X2, hX2⟩ : ∃ y, y = X1 := ⟨_, rfl⟩
  rw [← hX2] at gT bX ⊢
  clear hX2
  go_upto_region 13 with fail
  have B2 := hid bX
  have hb2 : HistK X2 hv hn := H4.out.keeps (KT.of_below (ts := []) (ms := []) (rs := []) bX) (by decide)
  obtain ⟨xs, hxs⟩ := hb2
  have OX := hid (And.intro hxs gT)
  have k74 := cell_at (below_heap bX E4.out) (i := 74) (v := hv) rfl
  have x0 := cell_at gT (i := 0) rfl
  have x1 := cell_at gT (i := 1) rfl
  have x2 := cell_at gT (i := 2) rfl
  have x3 := cell_at gT (i := 3) rfl
  have x4 := cell_at gT (i := 4) rfl
  have x5 := cell_at gT (i := 5) rfl
  have x6 := cell_at gT (i := 6) rfl
  have x7 := cell_at gT (i := 7) rfl
  have x8 := cell_at gT (i := 8) rfl
  have x9 := cell_at gT (i := 9) rfl
  have x10 := cell_at gT (i := 10) rfl
  have x11 := cell_at gT (i := 11) rfl
  have x12 := cell_at gT (i := 12) rfl
  have x13 := cell_at gT (i := 13) rfl
  have x14 := cell_at gT (i := 14) rfl
  have NB : ∀ {w1 : World} (q : Nat), Below X2.heap.size X2 w1 → w1.heap.size = q → (w1.alloc (.cells #[.int .i64 cI, .int .u8 kd, .int .i64 0, .slice Aq nq cq, .string ⟨#[]⟩, .int .i64 0, .int .i64 0, .bool false, .slice none 0 0, .slice none 0 0, .slice none 0 0, .int .i64 m, .int .i64 0, .int .i64 0, .int .i64 0] 81)).heap[q]? = some (.cells #[.int .i64 cI, .int .u8 kd, .int .i64 0, .slice Aq nq cq, .string ⟨#[]⟩, .int .i64 0, .int .i64 0, .bool false, .slice none 0 0, .slice none 0 0, .slice none 0 0, .int .i64 m, .int .i64 0, .int .i64 0, .int .i64 0] 81) := fun g _ e => by subst e; exact heap_alloc_new _ _
  obtain ⟨i0, hi, hz0, hz1, hz2⟩ := info_parts infEntry
  clear hxs gT bX
  go_wp2
  refine start_ (n := 11) (S := fun w' => w'.cell? ⟨E, 74, none⟩ = some hv ∧ w'.cell? ⟨T, 0, none⟩ = some (.int .i64 cI) ∧ w'.cell? ⟨T, 1, none⟩ = some (.int .u8 kd) ∧ w'.cell? ⟨T, 2, none⟩ = some (.int .i64 0) ∧ w'.cell? ⟨T, 3, none⟩ = some (.slice Aq nq cq) ∧ w'.cell? ⟨T, 4, none⟩ = some (.string ⟨#[]⟩) ∧ w'.cell? ⟨T, 5, none⟩ = some (.int .i64 0) ∧ w'.cell? ⟨T, 6, none⟩ = some (.int .i64 0) ∧ w'.cell? ⟨T, 7, none⟩ = some (.bool false) ∧ w'.cell? ⟨T, 8, none⟩ = some (.slice none 0 0) ∧ w'.cell? ⟨T, 9, none⟩ = some (.slice none 0 0) ∧ w'.cell? ⟨T, 10, none⟩ = some (.slice none 0 0) ∧ w'.cell? ⟨T, 11, none⟩ = some (.int .i64 m) ∧ w'.cell? ⟨T, 12, none⟩ = some (.int .i64 0) ∧ w'.cell? ⟨T, 13, none⟩ = some (.int .i64 0) ∧ w'.cell? ⟨T, 14, none⟩ = some (.int .i64 0) ∧ Below X2.heap.size X2 w') (ds := [7, 10]) (tf 11 0) (by kernel_rfl) rfl rfl ⟨k74, x0, x1, x2, x3, x4, x5, x6, x7, x8, x9, x10, x11, x12, x13, x14, (Below.refl X2.heap.size X2).drew⟩ (fun hHeld => ?_); refine pure_ (i := 0) (N := some 63) (v := ?_) (a' := ?_) (tf 11 1) rfl rfl (by kernel_rfl) (fun _ _ _ h => h) (Or.inl ⟨by rfl, ?_⟩) ?_ ?_; rotate_left; (· intro w'; go_simp; (with_reducible rfl)); rotate_left; (· simp only [pn_]; rfl); refine pure_ (i := 1) (N := some 64) (v := ?_) (a' := ?_) (tf 11 3) rfl rfl (by kernel_rfl) (fun _ _ _ h => h) (Or.inl ⟨by rfl, ?_⟩) ?_ ?_; rotate_left; (· intro w'; go_simp; (with_reducible rfl)); rotate_left; (· simp only [pn_]; rfl); refine pure_ (i := 2) (N := some 65) (v := ?_) (a' := ?_) (tf 11 7) rfl rfl (by kernel_rfl) (fun _ _ _ h => h) (Or.inl ⟨by rfl, ?_⟩) ?_ ?_; rotate_left; (· intro w'; go_simp; (with_reducible rfl)); rotate_left; (· simp only [pn_]; rfl); refine pure_ (i := 3) (N := some 66) (v := ?_) (a' := ?_) (tf 11 15) rfl rfl (by kernel_rfl) (fun _ _ _ h => h) (Or.inl ⟨by rfl, ?_⟩) ?_ ?_; rotate_left; (· intro w'; go_simp; (with_reducible rfl)); rotate_left; (· simp only [pn_]; rfl); refine take_ (i := 4) (N := some 67) (v := ?_) (a' := ?_) (tf 11 31) rfl rfl (by kernel_rfl) (fun _ _ _ h => h) (Or.inl ⟨by rfl, ?_⟩) hHeld ?_ ?_; rotate_left; (· rintro w' ⟨s0, s1, s2, s3, s4, s5, s6, s7, s8, s9, s10, s11, s12, s13, s14, s15, s16⟩; go_simp; (with_reducible rfl)); rotate_left; (· simp only [pn_]; rfl); refine take_ (i := 5) (N := some 68) (v := ?_) (a' := ?_) (tf 11 63) rfl rfl (by kernel_rfl) (fun _ _ _ h => h) (Or.inl ⟨by rfl, ?_⟩) hHeld ?_ ?_; rotate_left; (· rintro w' ⟨s0, s1, s2, s3, s4, s5, s6, s7, s8, s9, s10, s11, s12, s13, s14, s15, s16⟩; go_simp; (with_reducible rfl)); rotate_left; (· simp only [pn_]; rfl); refine one_ (i := 6) (N := some 69) (tf 11 127) rfl rfl (by kernel_rfl) (by decide) (fun K hK => ?_); refine value_ (w1 := ?_) (v := ?_) (by rfl) rfl ?_ ?_; rotate_left 2; (· go_simp; constructor; (· rfl); (· rfl)); have kB := NB X2.heap.size hHeld.2.2.2.2.2.2.2.2.2.2.2.2.2.2.2.2 (by simp); refine hK.out _ _ ⟨(below_cell (below_alloc (Below.refl _ _) (.cells #[.int .i64 cI, .int .u8 kd, .int .i64 0, .slice Aq nq cq, .string ⟨#[]⟩, .int .i64 0, .int .i64 0, .bool false, .slice none 0 0, .slice none 0 0, .slice none 0 0, .int .i64 m, .int .i64 0, .int .i64 0, .int .i64 0] 81)) hHeld.1), (below_cell (below_alloc (Below.refl _ _) (.cells #[.int .i64 cI, .int .u8 kd, .int .i64 0, .slice Aq nq cq, .string ⟨#[]⟩, .int .i64 0, .int .i64 0, .bool false, .slice none 0 0, .slice none 0 0, .slice none 0 0, .int .i64 m, .int .i64 0, .int .i64 0, .int .i64 0] 81)) hHeld.2.1), (below_cell (below_alloc (Below.refl _ _) (.cells #[.int .i64 cI, .int .u8 kd, .int .i64 0, .slice Aq nq cq, .string ⟨#[]⟩, .int .i64 0, .int .i64 0, .bool false, .slice none 0 0, .slice none 0 0, .slice none 0 0, .int .i64 m, .int .i64 0, .int .i64 0, .int .i64 0] 81)) hHeld.2.2.1), (below_cell (below_alloc (Below.refl _ _) (.cells #[.int .i64 cI, .int .u8 kd, .int .i64 0, .slice Aq nq cq, .string ⟨#[]⟩, .int .i64 0, .int .i64 0, .bool false, .slice none 0 0, .slice none 0 0, .slice none 0 0, .int .i64 m, .int .i64 0, .int .i64 0, .int .i64 0] 81)) hHeld.2.2.2.1), (below_cell (below_alloc (Below.refl _ _) (.cells #[.int .i64 cI, .int .u8 kd, .int .i64 0, .slice Aq nq cq, .string ⟨#[]⟩, .int .i64 0, .int .i64 0, .bool false, .slice none 0 0, .slice none 0 0, .slice none 0 0, .int .i64 m, .int .i64 0, .int .i64 0, .int .i64 0] 81)) hHeld.2.2.2.2.1), (below_cell (below_alloc (Below.refl _ _) (.cells #[.int .i64 cI, .int .u8 kd, .int .i64 0, .slice Aq nq cq, .string ⟨#[]⟩, .int .i64 0, .int .i64 0, .bool false, .slice none 0 0, .slice none 0 0, .slice none 0 0, .int .i64 m, .int .i64 0, .int .i64 0, .int .i64 0] 81)) hHeld.2.2.2.2.2.1), (below_cell (below_alloc (Below.refl _ _) (.cells #[.int .i64 cI, .int .u8 kd, .int .i64 0, .slice Aq nq cq, .string ⟨#[]⟩, .int .i64 0, .int .i64 0, .bool false, .slice none 0 0, .slice none 0 0, .slice none 0 0, .int .i64 m, .int .i64 0, .int .i64 0, .int .i64 0] 81)) hHeld.2.2.2.2.2.2.1), (below_cell (below_alloc (Below.refl _ _) (.cells #[.int .i64 cI, .int .u8 kd, .int .i64 0, .slice Aq nq cq, .string ⟨#[]⟩, .int .i64 0, .int .i64 0, .bool false, .slice none 0 0, .slice none 0 0, .slice none 0 0, .int .i64 m, .int .i64 0, .int .i64 0, .int .i64 0] 81)) hHeld.2.2.2.2.2.2.2.1), (below_cell (below_alloc (Below.refl _ _) (.cells #[.int .i64 cI, .int .u8 kd, .int .i64 0, .slice Aq nq cq, .string ⟨#[]⟩, .int .i64 0, .int .i64 0, .bool false, .slice none 0 0, .slice none 0 0, .slice none 0 0, .int .i64 m, .int .i64 0, .int .i64 0, .int .i64 0] 81)) hHeld.2.2.2.2.2.2.2.2.1), (below_cell (below_alloc (Below.refl _ _) (.cells #[.int .i64 cI, .int .u8 kd, .int .i64 0, .slice Aq nq cq, .string ⟨#[]⟩, .int .i64 0, .int .i64 0, .bool false, .slice none 0 0, .slice none 0 0, .slice none 0 0, .int .i64 m, .int .i64 0, .int .i64 0, .int .i64 0] 81)) hHeld.2.2.2.2.2.2.2.2.2.1), (below_cell (below_alloc (Below.refl _ _) (.cells #[.int .i64 cI, .int .u8 kd, .int .i64 0, .slice Aq nq cq, .string ⟨#[]⟩, .int .i64 0, .int .i64 0, .bool false, .slice none 0 0, .slice none 0 0, .slice none 0 0, .int .i64 m, .int .i64 0, .int .i64 0, .int .i64 0] 81)) hHeld.2.2.2.2.2.2.2.2.2.2.1), (below_cell (below_alloc (Below.refl _ _) (.cells #[.int .i64 cI, .int .u8 kd, .int .i64 0, .slice Aq nq cq, .string ⟨#[]⟩, .int .i64 0, .int .i64 0, .bool false, .slice none 0 0, .slice none 0 0, .slice none 0 0, .int .i64 m, .int .i64 0, .int .i64 0, .int .i64 0] 81)) hHeld.2.2.2.2.2.2.2.2.2.2.2.1), (below_cell (below_alloc (Below.refl _ _) (.cells #[.int .i64 cI, .int .u8 kd, .int .i64 0, .slice Aq nq cq, .string ⟨#[]⟩, .int .i64 0, .int .i64 0, .bool false, .slice none 0 0, .slice none 0 0, .slice none 0 0, .int .i64 m, .int .i64 0, .int .i64 0, .int .i64 0] 81)) hHeld.2.2.2.2.2.2.2.2.2.2.2.2.1), (below_cell (below_alloc (Below.refl _ _) (.cells #[.int .i64 cI, .int .u8 kd, .int .i64 0, .slice Aq nq cq, .string ⟨#[]⟩, .int .i64 0, .int .i64 0, .bool false, .slice none 0 0, .slice none 0 0, .slice none 0 0, .int .i64 m, .int .i64 0, .int .i64 0, .int .i64 0] 81)) hHeld.2.2.2.2.2.2.2.2.2.2.2.2.2.1), (below_cell (below_alloc (Below.refl _ _) (.cells #[.int .i64 cI, .int .u8 kd, .int .i64 0, .slice Aq nq cq, .string ⟨#[]⟩, .int .i64 0, .int .i64 0, .bool false, .slice none 0 0, .slice none 0 0, .slice none 0 0, .int .i64 m, .int .i64 0, .int .i64 0, .int .i64 0] 81)) hHeld.2.2.2.2.2.2.2.2.2.2.2.2.2.2.1), (below_cell (below_alloc (Below.refl _ _) (.cells #[.int .i64 cI, .int .u8 kd, .int .i64 0, .slice Aq nq cq, .string ⟨#[]⟩, .int .i64 0, .int .i64 0, .bool false, .slice none 0 0, .slice none 0 0, .slice none 0 0, .int .i64 m, .int .i64 0, .int .i64 0, .int .i64 0] 81)) hHeld.2.2.2.2.2.2.2.2.2.2.2.2.2.2.2.1), (below_then hHeld.2.2.2.2.2.2.2.2.2.2.2.2.2.2.2.2 (below_alloc (Below.refl _ _) (.cells #[.int .i64 cI, .int .u8 kd, .int .i64 0, .slice Aq nq cq, .string ⟨#[]⟩, .int .i64 0, .int .i64 0, .bool false, .slice none 0 0, .slice none 0 0, .slice none 0 0, .int .i64 m, .int .i64 0, .int .i64 0, .int .i64 0] 81)))⟩ (fun hHeld => ?_); clear hK K; refine norm_ (a' := ?_) ?_ ?_; rotate_left; (· show Act.put _ (some 69) _ = _; simp only [pn_]; rfl); refine last_ (i := 7) (N := some 70) (tf 11 255) rfl rfl (by kernel_rfl) (by decide) (fun K hK => ?_); refine step_app rfl (.tmp 67) (.tmp 69) _ rfl 81 i0 _ 15 192 Tryz.underlying62 hi hz0 hz1 hz2 rfl (by decide) hv hn xs rfl (below_own hHeld.2.2.2.2.2.2.2.2.2.2.2.2.2.2.2.2 OX.out.1) (some ⟨X2.heap.size, 0, none⟩) 1 1 [.int .i64 cI, .int .u8 kd, .int .i64 0, .slice Aq nq cq, .string ⟨#[]⟩, .int .i64 0, .int .i64 0, .bool false, .slice none 0 0, .slice none 0 0, .slice none 0 0, .int .i64 m, .int .i64 0, .int .i64 0, .int .i64 0] rfl rfl (fun e => by cases e) (news_of_block kB) (by intro u hu; simp at hu; rcases hu with rfl | rfl | rfl | rfl | rfl | rfl | rfl | rfl | rfl | rfl | rfl | rfl | rfl | rfl | rfl <;> rfl) (by have := G3.out.2.2.2.2.2.1; unfold maxLen; omega) (by have := G3.out.2.2.2.2.2.1; omega) ?_; intro A' c' wa h2 h3 h4 h5; have bA := hHeld.2.2.2.2.2.2.2.2.2.2.2.2.2.2.2.2; have h3' : World.grownBy _ wa hv.ownBlock := h3; have kA : KB hv.ownBlock.toList [81] [] [] w5 wa := KB.grown ((KB.of_below B2.out).below bA) h3' (fun k e q => by obtain ⟨cur, hc⟩ := H4.out.lt e; exact ⟨by simp [e], cur, _, _, hc, by simp⟩); have EA := kA.1.cells E4.out (by decide); have q74 := cell_at EA (i := 74) (v := hv) rfl; have r74 := free_at EA 74; refine hK.out _ _ ?_; clear hK K; refine norm_ (a' := ?_) ?_ ?_; rotate_left; (· show Act.put _ (some 70) _ = _; simp only [pn_]; rfl); refine pure_ (i := 8) (N := some 71) (v := ?_) (a' := ?_) (tf 11 511) rfl rfl (by kernel_rfl) (fun _ _ _ h => h) (Or.inl ⟨by rfl, ?_⟩) ?_ ?_; rotate_left; (· intro w'; go_simp; (with_reducible rfl)); rotate_left; (· simp only [pn_]; rfl); refine pure_ (i := 9) (N := some 72) (v := ?_) (a' := ?_) (tf 11 1023) rfl rfl (by kernel_rfl) (fun _ _ _ h => h) (Or.inl ⟨by rfl, ?_⟩) ?_ ?_; rotate_left; (· intro w'; go_simp; (with_reducible rfl)); rotate_left; (· simp only [pn_]; rfl); refine last_ (i := 10) (N := none) (tf 11 2047) rfl rfl (by kernel_rfl) (by decide) (fun K hK => ?_); refine skip_ (w1 := ?_) (by rfl) rfl ?_ ?_; rotate_left; (· go_simp; rfl); refine hK.out _ _ ?_; clear hK K; refine done_ (by kernel_rfl) ?_
  have h4' : (Value.slice A' (hn + 1) c').ownBlock = hv.ownBlock ∨ (Value.slice A' (hn + 1) c').ownBlock = some _ := h4
  obtain ⟨X3, hX3⟩ : ∃ y, y = wa.setCell ⟨E, 74, none⟩ (.slice A' (hn + 1) c') := ⟨_, rfl⟩
  have e3 : X3.heap[E]? = some (.cells (engS L P a' b' (.slice A' (hn + 1) c') m) 64 (0, 0)) := by rw [hX3]; exact (heap_set EA).trans rfl
  have kX : KB (E :: hv.ownBlock.toList) [64, 81] [] [] w5 X3 := by
    rw [hX3]; exact (kA.mono (bs' := E :: hv.ownBlock.toList) (ts' := [64, 81]) (ms' := []) (rs' := []) (by intro x hx; simp at hx ⊢; exact .inr hx) (by simp) (by simp) (by simp)).set (p := ⟨E, 74, none⟩) E4.out (by simp) (by simp) _
  have kE : KT [64] [] [] wa X3 := by rw [hX3]; exact (KT.refl _ _ _ _).set (p := ⟨E, 74, none⟩) EA (by simp) _
  have h3x : HistK X3 (.slice A' (hn + 1) c') (hn + 1) := ⟨_, own_keeps h2 kE ⟨by decide, by decide⟩⟩
  have g1 := kX.1.cells G1.out (by decide)
  have g9 := kX.1.cells G9.out (by decide)
  have hq : ∀ k, (Value.slice A' (hn + 1) c').ownBlock = some k → hv.ownBlock = some k ∨ w.heap.size ≤ k := fun k e => by
    rcases h4' with q | q
    · exact .inl (q ▸ e)
    · refine .inr ?_
      rw [q] at e
      cases e
      have s1 := B2.out.size
      have s2 := bA.size
      have s3 := SW5.out
      have s4 := SW.out
      have s5 := lt_of_block G9.out
      omega
  rw [← hX3]
  have FX := hid (And.intro e3 (And.intro kX (And.intro h3x (And.intro g1 hq))))
  have d0 := cell_at g9 (i := 0) rfl
  have d1 := cell_at g9 (i := 1) rfl
  have d2 := cell_at g9 (i := 2) rfl
  have d3 := cell_at g9 (i := 3) rfl
  have d4 := cell_at g9 (i := 4) rfl
  have q0 := cell_at g1 (i := 0) rfl
  have q1 := cell_at g1 (i := 1) rfl
  have q2 := cell_at g1 (i := 2) rfl
  have q3 := cell_at g1 (i := 3) rfl
  have q4 := cell_at g1 (i := 4) rfl
  have f0 := free_at g1 0
  have f1 := free_at g1 1
  have f2 := free_at g1 2
  have f3 := free_at g1 3
  have f4 := free_at g1 4
  clear hX3 e3 kX kE h3x g1 g9 hq h2 h3 h3' h4 h4' h5 kA EA q74 r74 bA k74 x0 x1 x2 x3 x4 x5 x6 x7 x8 x9 x10 x11 x12 x13 x14 NB hHeld hi hz0 hz1 hz2
  go_wp2
  obtain ⟨X4, hX4⟩ : ∃ y, y = set5 X3 S1 0 (.int .i64 0) (.bool false) (.slice none 0 0) (.slice none 0 0) (.slice none 0 0) := ⟨_, rfl⟩
  have g7 : X4.heap[S1]? = some (.cells #[.int .i64 0, .bool false, .slice none 0 0, .slice none 0 0, .slice none 0 0] 38 (0, 0)) := by rw [hX4]; exact set5_heap FX.out.2.2.2.1
  have kS : KT [38] [] [] X3 X4 := by rw [hX4]; exact (KT.refl _ _ _ _).set5 FX.out.2.2.2.1 (by simp) _ _ _ _ _
  have kF : KB (E :: (hv.ownBlock.toList ++ bs)) (64 :: 81 :: ts) ms rs w X4 := by
    rw [hX4]
    exact (KP.out.then FX.out.2.1 (by intro x hx _; simp at hx ⊢; rcases hx with h | h <;> simp [h]) (by intro x hx; simp at hx ⊢; rcases hx with h | h <;> simp [h]) (by simp) (by simp)).set5New SZ.out.2.2.1 _ _ _ _ _
  have kZ : KT [64, 81, 38] [] [] w4 X4 := (Z4.out.2.then FX.out.2.1.1 (by simp) (by simp) (by simp)).then kS (by simp) (by simp) (by simp)
  have FIN := hid (And.intro Z4.out.1 (And.intro kZ (And.intro (kS.cells FX.out.1 (by decide)) (And.intro (FX.out.2.2.1.keeps kS (by decide)) (And.intro kF FX.out.2.2.2.2)))))
  have G7 := hid g7
  have HX4 := hid (show (((((X3.setCell ⟨S1, 0, none⟩ (.int .i64 0)).setCell ⟨S1, 1, none⟩ (.bool false)).setCell ⟨S1, 2, none⟩ (.slice none 0 0)).setCell ⟨S1, 3, none⟩ (.slice none 0 0)).setCell ⟨S1, 4, none⟩ (.slice none 0 0)) = X4 from hX4.symm)
  clear hX4 g7 kS kF kZ d0 d1 d2 d3 d4 q0 q1 q2 q3 q4 f0 f1 f2 f3 f4
  rw [HX4.out]
  try simp only [Exit.inBlock, Exit.then]
  refine bodyPost_ret (ret_cell_tmp rfl rfl G7.out Tryz.underlying38 rfl infReply) rfl ?_
  rw [← HM.out]
  exact ⟨rfl, w4, _, FIN.out⟩
end Go.Proofs.YtnidgljkbmceaaaGreatDoor
