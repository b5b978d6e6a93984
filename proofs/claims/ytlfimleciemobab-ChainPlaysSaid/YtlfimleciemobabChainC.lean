/- The walks of package chain: Get, Put, Trim. -/
import Derived.Test.YtlfimleciemobabChainB
set_option linter.unusedVariables false
set_option linter.unusedSimpArgs false
namespace Go.Proofs.Ytlfimleciemobab
open Go.RowKit PrintLast

/-- What Get answers. -/
def got (vs : List Ver) (x : Int) : List UInt8 × Bool := match vs[cnt vs x - 1]? with
  | some v => if cnt vs x = 0 ∨ v.gone = true then ([], false) else (v.row, true)
  | none => ([], false)

set_option maxHeartbeats 800000 in
theorem get_any {w : World} {F : Nat → Prop} {b : Nat} {vs : List Ver} {last : Int} (h : ChainAt w F b vs last) (hr : Rising vs) (hn : vs.length < 4611686018427387904) (hrow : ∀ v ∈ vs, v.row.length ≤ 140737488355328) (x : Int) :
    Calls Try.prog 13 #[.pointer (some ⟨b, 0, none⟩), .int .i64 x] w fun e w' => ∃ A' c', e = .returned (.tuple #[.slice A' (got vs x).1.length c', .bool (got vs x).2]) ∧ Made w w' (.slice A' (got vs x).1.length c') (got vs x).1 := by
  have S := seen_any h hr hn x
  have hcl := cnt_le vs x
  have none_ : ∀ w', Below w.heap.size w w' → Made w w' (.slice none 0 0) [] := fun w' hb => ⟨World.ownsRow_nil _ _ _ _, fun k hk => by simp [Value.ownBlock] at hk, hb⟩
  by_cases h0 : cnt vs x = 0
  · have hg : got vs x = ([], false) := by unfold got; split <;> simp [h0]
    rw [hg]
    rw [h0] at S
    have C := hid S
    clear S hg h0 hcl
    go_enter Try.func13, Try.ntmps13
    go_wp2_with fail
    refine C.out.mono ?_
    rintro e w1 ⟨rfl, hb⟩
    go_wp2
    go_ret2
    exact ⟨none, 0, rfl, none_ _ hb⟩
  · obtain ⟨i, hi⟩ : ∃ i, cnt vs x = i + 1 := ⟨cnt vs x - 1, by omega⟩
    have hil : i < vs.length := by omega
    rw [hi, show (((i + 1 : Nat) : Int) - 1) = (i : Int) by omega] at S
    have hg : got vs x = if vs[i].gone = true then ([], false) else (vs[i].row, true) := by
      unfold got
      rw [hi, show i + 1 - 1 = i by omega, List.getElem?_eq_getElem hil]
      simp
    have HG := hid hg
    have C := hid S
    have hR := hrow _ (List.getElem_mem hil)
    clear S hg hi h0 hcl hrow
    go_enter Try.func13, Try.ntmps13
    go_wp2_with fail
    refine C.out.mono ?_
    rintro e w1 ⟨rfl, hb⟩
    have hl := h.len_le
    obtain ⟨_, _, A, c, cs, g1, g2, g3, g4⟩ := h.below hb
    obtain ⟨R, cR, e0, e1, e2, eb, _⟩ := g4.get i hil
    have hA : ∃ g, A = some ⟨g, 0, none⟩ := by
      obtain ⟨g, cap, e, _⟩ := g2.form (by omega)
      cases e
      exact ⟨g, rfl⟩
    obtain ⟨g, rfl⟩ := hA
    have cg := fun j u (hu : cs[j]? = some u) => by
      have := g2.cells (g := g) rfl j u hu
      rw [add_plain] at this; exact this
    have ca := cg _ _ e1
    have cb := cg _ _ e2
    have c0 := cell_at g1 (i := 0) (v := .slice (some ⟨g, 0, none⟩) vs.length c) rfl
    clear g1 g2 g3 g4 e0 e1 e2 cg h
    cases hgo : vs[i].gone with
    | true =>
      rw [hgo] at cb HG
      clear hgo
      go_wp2
      go_ret2
      rw [HG.out]
      exact ⟨none, 0, rfl, none_ _ hb⟩
    | false =>
      rw [hgo] at cb HG
      clear hgo
      have K := hid (clone_any eb hR)
      go_wp2_with fail
      refine K.out.mono ?_
      rintro e w2 ⟨A', c', rfl, m1, m2, m3⟩
      go_wp2
      go_ret2
      rw [HG.out]
      have s1 := hb.size
      exact ⟨A', c', rfl, m1, fun k hk => by have := m2 k hk; omega, below_then hb m3⟩
theorem get_nil {w : World} (x : Int) :
    Calls Try.prog 13 #[.pointer none, .int .i64 x] w fun e w' => e = .returned (.tuple #[.slice none 0 0, .bool false]) ∧ Below w.heap.size w w' := by
  go_enter Try.func13, Try.ntmps13
  go_wp2_with fail
  refine (seen_nil x).mono ?_
  rintro e w1 ⟨rfl, hb⟩
  go_wp2
  go_ret2
  exact ⟨rfl, hb⟩

theorem infoV : (Try.prog.info? 57).map (fun i => (i.zero, i.size, i.bytes)) = some (some (.agg #[.int .i64 0, .slice none 0 0, .bool false]), 3, 40) := by kernel_rfl

theorem put_nil {w : World} {x : Int} {A : Option Addr} {n c : Nat} {g : Bool} :
    Calls Try.prog 12 #[.pointer none, .int .i64 x, .slice A n c, .bool g] w fun e w' => e = .returned (.int .i64 5) ∧ w = w' := by
  go_enter Try.func12, Try.ntmps12
  go_wp2
  go_ret
  exact ⟨rfl, rfl⟩
theorem put_no {w : World} {F : Nat → Prop} {b : Nat} {vs : List Ver} {last x : Int} {A : Option Addr} {n c : Nat} {g : Bool} (h : ChainAt w F b vs last) (hx : x ≤ last) :
    Calls Try.prog 12 #[.pointer (some ⟨b, 0, none⟩), .int .i64 x, .slice A n c, .bool g] w fun e w' => e = .returned (.int .i64 1) ∧ w = w' := by
  obtain ⟨_, _, A', c', cs, g1, _⟩ := h
  have c1 := cell_at g1 (i := 1) (v := .int .i64 last) rfl
  clear g1
  go_enter Try.func12, Try.ntmps12
  go_wp2
  go_ret
  exact ⟨rfl, rfl⟩

set_option maxHeartbeats 1600000 in
theorem put_yes {w : World} {F : Nat → Prop} {b : Nat} {vs : List Ver} {last x : Int} {A : Option Addr} {c : Nat} {row : List UInt8} {g : Bool} (h : ChainAt w F b vs last) (hx : last < x) (hrow : BSA w A c row) (hbig : row.length ≤ 140737488355328) (hn : vs.length < 1000000) :
    Calls Try.prog 12 #[.pointer (some ⟨b, 0, none⟩), .int .i64 x, .slice A row.length c, .bool g] w fun e w' => e = .returned (.int .i64 0) ∧ ∃ F', ChainAt w' F' b (vs ++ [⟨x, row, g⟩]) x ∧ (∀ k, F' k → F k ∨ w.heap.size ≤ k) ∧ Keeps F w w' := by
  obtain ⟨h1, h2, A1, c1, cs, g1, g2, g3, g4⟩ := h
  obtain ⟨i0, hi, hz0, hz1, hz2⟩ := info_parts infoV
  have HC := hid (clone_any (show BSA w.drew A c row from hrow) hbig)
  have e1 := cell_at g1 (i := 1) (v := .int .i64 last) rfl
  have e0 := cell_at g1 (i := 0) (v := .slice A1 vs.length c1) rfl
  have hx' : ¬ x ≤ last := by omega
  go_enter Try.func12, Try.ntmps12
  go_wp2
  refine start_ (n := 15) (S := fun w' => w'.cell? ⟨b, 0, none⟩ = some (.slice A1 vs.length c1)) (ds := [14]) #[false, false, false, false, false, false, false, false, false, false, false, false, false, false, false] (by kernel_rfl) rfl rfl (e0) (fun hHeld => ?_)
  refine pure_ (i := 0) (N := some 19) (v := ?_) (a' := ?_) #[true, false, false, false, false, false, false, false, false, false, false, false, false, false, false] rfl rfl (by kernel_rfl) (fun _ _ _ h => h) (Or.inl ⟨by rfl, ?_⟩) ?_ ?_
  rotate_left
  · intro w'
    go_simp
    with_reducible rfl
  rotate_left
  · simp only [Act.put, List.setIfInBounds_toArray, List.set_cons_zero, List.set_cons_succ, i64_w, i32_w]
    rfl
  refine pure_ (i := 1) (N := some 20) (v := ?_) (a' := ?_) #[true, true, false, false, false, false, false, false, false, false, false, false, false, false, false] rfl rfl (by kernel_rfl) (fun _ _ _ h => h) (Or.inl ⟨by rfl, ?_⟩) ?_ ?_
  rotate_left
  · intro w'
    go_simp
    with_reducible rfl
  rotate_left
  · simp only [Act.put, List.setIfInBounds_toArray, List.set_cons_zero, List.set_cons_succ, i64_w, i32_w]
    rfl
  refine pure_ (i := 2) (N := some 21) (v := ?_) (a' := ?_) #[true, true, true, false, false, false, false, false, false, false, false, false, false, false, false] rfl rfl (by kernel_rfl) (fun _ _ _ h => h) (Or.inl ⟨by rfl, ?_⟩) ?_ ?_
  rotate_left
  · intro w'
    go_simp
    with_reducible rfl
  rotate_left
  · simp only [Act.put, List.setIfInBounds_toArray, List.set_cons_zero, List.set_cons_succ, i64_w, i32_w]
    rfl
  refine pure_ (i := 3) (N := some 22) (v := ?_) (a' := ?_) #[true, true, true, true, false, false, false, false, false, false, false, false, false, false, false] rfl rfl (by kernel_rfl) (fun _ _ _ h => h) (Or.inl ⟨by rfl, ?_⟩) ?_ ?_
  rotate_left
  · intro w'
    go_simp
    with_reducible rfl
  rotate_left
  · simp only [Act.put, List.setIfInBounds_toArray, List.set_cons_zero, List.set_cons_succ, i64_w, i32_w]
    rfl
  refine pure_ (i := 5) (N := some 24) (v := ?_) (a' := ?_) #[true, true, true, true, false, true, false, false, false, false, false, false, false, false, false] rfl rfl (by kernel_rfl) (fun _ _ _ h => h) (Or.inl ⟨by rfl, ?_⟩) ?_ ?_
  rotate_left
  · intro w'
    go_simp
    with_reducible rfl
  rotate_left
  · simp only [Act.put, List.setIfInBounds_toArray, List.set_cons_zero, List.set_cons_succ, i64_w, i32_w]
    rfl
  refine pure_ (i := 6) (N := some 25) (v := ?_) (a' := ?_) #[true, true, true, true, false, true, true, false, false, false, false, false, false, false, false] rfl rfl (by kernel_rfl) (fun _ _ _ h => h) (Or.inl ⟨by rfl, ?_⟩) ?_ ?_
  rotate_left
  · intro w'
    go_simp
    with_reducible rfl
  rotate_left
  · simp only [Act.put, List.setIfInBounds_toArray, List.set_cons_zero, List.set_cons_succ, i64_w, i32_w]
    rfl
  refine pure_ (i := 8) (N := some 27) (v := ?_) (a' := ?_) #[true, true, true, true, false, true, true, false, true, false, false, false, false, false, false] rfl rfl (by kernel_rfl) (fun _ _ _ h => h) (Or.inl ⟨by rfl, ?_⟩) ?_ ?_
  rotate_left
  · intro w'
    go_simp
    with_reducible rfl
  rotate_left
  · simp only [Act.put, List.setIfInBounds_toArray, List.set_cons_zero, List.set_cons_succ, i64_w, i32_w]
    rfl
  refine take_ (i := 4) (N := some 23) (v := ?_) (a' := ?_) #[true, true, true, true, true, true, true, false, true, false, false, false, false, false, false] rfl rfl (by kernel_rfl) (fun _ _ _ h => h) (Or.inl ⟨by rfl, ?_⟩) hHeld ?_ ?_
  rotate_left
  · intro w' s0
    go_simp
    with_reducible rfl
  rotate_left
  · simp only [Act.put, List.setIfInBounds_toArray, List.set_cons_zero, List.set_cons_succ, i64_w, i32_w]
    rfl
  refine one_ (i := 7) (N := some 26) #[true, true, true, true, true, true, true, true, true, false, false, false, false, false, false] rfl rfl (by kernel_rfl) (by decide) (fun K hK => ?_)
  refine goes_ Try.func21 (by kernel_rfl) rfl #[.slice A row.length c] (by rfl) rfl rfl (by simp only [List.map_toArray, List.map_cons, List.map_nil]; rfl) ?_
  with_reducible refine (HC.out).mono ?_
  rintro e w1 ⟨R, cR, rfl, k1, k2, k3⟩
  refine ⟨_, rfl, ?_⟩
  have f0 := below_heap k3 g1
  refine hK.out _ _ (below_cell k3 e0) (fun hHeld => ?_)
  clear hK K
  refine norm_ (a' := ?_) ?_ ?_
  rotate_left
  · show Act.put _ (some 26) _ = _
    simp only [Act.put, List.setIfInBounds_toArray, List.set_cons_zero, List.set_cons_succ, i64_w, i32_w]
    rfl
  refine pure_ (i := 9) (N := some 28) (v := ?_) (a' := ?_) #[true, true, true, true, true, true, true, true, true, true, false, false, false, false, false] rfl rfl (by kernel_rfl) (fun _ _ _ h => h) (Or.inl ⟨by rfl, ?_⟩) ?_ ?_
  rotate_left
  · intro w'
    go_simp
    with_reducible rfl
  rotate_left
  · simp only [Act.put, List.setIfInBounds_toArray, List.set_cons_zero, List.set_cons_succ, i64_w, i32_w]
    rfl
  refine one_ (i := 10) (N := some 29) #[true, true, true, true, true, true, true, true, true, true, true, false, false, false, false] rfl rfl (by kernel_rfl) (by decide) (fun K hK => ?_)
  refine value_ (w1 := ?_) (v := ?_) (by rfl) rfl ?_ ?_
  rotate_left 2
  · go_simp
    constructor
    · rfl
    · rfl
  refine hK.out _ _ (below_cell (below_alloc (Below.refl _ w1) _) (below_cell k3 e0)) (fun hHeld => ?_)
  clear hK K
  refine norm_ (a' := ?_) ?_ ?_
  rotate_left
  · show Act.put _ (some 29) _ = _
    simp only [Act.put, List.setIfInBounds_toArray, List.set_cons_zero, List.set_cons_succ, i64_w, i32_w]
    rfl
  refine one_ (i := 11) (N := some 30) #[true, true, true, true, true, true, true, true, true, true, true, true, false, false, false] rfl rfl (by kernel_rfl) (by decide) (fun K hK => ?_)
  refine step_app rfl (.tmp 23) (.tmp 29) 52 rfl 57 i0 (.agg #[.int .i64 0, .slice none 0 0, .bool false]) 3 40 Try.underlying52 hi hz0 hz1 hz2 rfl (by decide) _ vs.length cs rfl ((below_own k3 g2).alloc _) (some ⟨w1.heap.size, 0, none⟩) 1 1 [.int .i64 x, .slice R row.length cR, .bool g] rfl rfl (fun e => by cases e) ?_ ?_ (by unfold maxLen; omega) (by omega) ?_
  · intro ad e j u hu; cases e; rw [add_plain]; exact cell_at (heap_alloc_new _ _) (by simpa using hu)
  · intro u hu; simp at hu; rcases hu with rfl | rfl | rfl <;> rfl
  intro A2 c2 w2 m1 m2 m3 m4
  have f1 := (m2.block b (by have := lt_of_block f0; simp; omega) (fun e => (g3 b e.symm).2 rfl)).trans (below_heap (below_alloc (Below.refl _ w1) _) f0)
  have d0 := cell_at f1 (i := 0) (v := .slice A1 vs.length c1) rfl
  have d1 := free_at f1 0
  refine hK.out _ _ (d0) (fun hHeld => ?_)
  clear hK K
  refine norm_ (a' := ?_) ?_ ?_
  rotate_left
  · show Act.put _ (some 30) _ = _
    simp only [Act.put, List.setIfInBounds_toArray, List.set_cons_zero, List.set_cons_succ, i64_w, i32_w]
    rfl
  refine pure_ (i := 12) (N := some 31) (v := ?_) (a' := ?_) #[true, true, true, true, true, true, true, true, true, true, true, true, true, false, false] rfl rfl (by kernel_rfl) (fun _ _ _ h => h) (Or.inl ⟨by rfl, ?_⟩) ?_ ?_
  rotate_left
  · intro w'
    go_simp
    with_reducible rfl
  rotate_left
  · simp only [Act.put, List.setIfInBounds_toArray, List.set_cons_zero, List.set_cons_succ, i64_w, i32_w]
    rfl
  refine pure_ (i := 13) (N := some 32) (v := ?_) (a' := ?_) #[true, true, true, true, true, true, true, true, true, true, true, true, true, true, false] rfl rfl (by kernel_rfl) (fun _ _ _ h => h) (Or.inl ⟨by rfl, ?_⟩) ?_ ?_
  rotate_left
  · intro w'
    go_simp
    with_reducible rfl
  rotate_left
  · simp only [Act.put, List.setIfInBounds_toArray, List.set_cons_zero, List.set_cons_succ, i64_w, i32_w]
    rfl
  refine last_ (i := 14) (N := none) #[true, true, true, true, true, true, true, true, true, true, true, true, true, true, true] rfl rfl (by kernel_rfl) (by decide) (fun K hK => ?_)
  refine skip_ (w1 := ?_) (by rfl) rfl ?_ ?_
  rotate_left
  · go_simp
    rfl
  refine hK.out _ _ ?_
  clear hK K
  refine done_ (by kernel_rfl) ?_
  have FIN : ∃ F', ChainAt ((w2.setCell ⟨b, 0, none⟩ (.slice A2 (vs.length + 1) c2)).setCell ⟨b, 1, none⟩ (.int .i64 x)) F' b (vs ++ [⟨x, row, g⟩]) x ∧ (∀ k, F' k → F k ∨ w.heap.size ≤ k) ∧ Keeps F w ((w2.setCell ⟨b, 0, none⟩ (.slice A2 (vs.length + 1) c2)).setCell ⟨b, 1, none⟩ (.int .i64 x)) := by
    have hbw := h2 b h1
    have s1 : w.heap.size ≤ w1.heap.size := k3.size
    have s2 : w1.heap.size + 1 ≤ w2.heap.size := by have := m2.size; simpa using this
    have oA : ∀ k, (Value.slice A1 vs.length c1).ownBlock = some k → k < w.heap.size := fun k e => h2 k (g3 k e).1
    have oB : ∀ k, (Value.slice A2 (vs.length + 1) c2).ownBlock = some k → k < w2.heap.size := fun k e => (m1.lt k e).2
    have oC : ∀ k, (Value.slice A2 (vs.length + 1) c2).ownBlock = some k → k ≠ b := fun k e hk => by
      rcases m3 with m3 | m3
      · rw [m3] at e; exact (g3 k e).2 hk
      · rw [m3] at e; simp at e; omega
    have K1 : Keeps (fun k => k = b ∨ (Value.slice A1 vs.length c1).ownBlock = some k) w1 ((w2.setCell ⟨b, 0, none⟩ (.slice A2 (vs.length + 1) c2)).setCell ⟨b, 1, none⟩ (.int .i64 x)) :=
      ((((Keeps.refl _ w1).alloc _).grown m2 (fun k e _ => .inr e)).setCell (p := ⟨b, 0, none⟩) (fun _ => .inl rfl) _).setCell (p := ⟨b, 1, none⟩) (fun _ => .inl rfl) _
    have K0 : Keeps (fun k => k = b ∨ (Value.slice A1 vs.length c1).ownBlock = some k) w ((w2.setCell ⟨b, 0, none⟩ (.slice A2 (vs.length + 1) c2)).setCell ⟨b, 1, none⟩ (.int .i64 x)) :=
      ((Keeps.refl _ w).drew.below k3).then K1 (fun _ _ e => e)
    have rB : ∀ ad, R = some ad → w.heap.size ≤ ad.block ∧ ad.block < w1.heap.size := fun ad e => ⟨k2 ad.block (by rw [e]; rfl), (k1.lt ad.block (by rw [e]; rfl)).2⟩
    have nA : ∀ k, (k < w.heap.size ∧ (Value.slice A1 vs.length c1).ownBlock ≠ some k) ∨ (w.heap.size ≤ k ∧ k < w1.heap.size) → (Value.slice A2 (vs.length + 1) c2).ownBlock ≠ some k := fun k hk e => by
      rcases m3 with m3 | m3
      · rw [m3] at e
        rcases hk with hk | hk
        · exact hk.2 e
        · have := oA k e; omega
      · rw [m3] at e; simp at e; omega
    refine ⟨fun k => F k ∨ (w.heap.size ≤ k ∧ k < w2.heap.size), ⟨.inl h1, fun k hk => ?_, A2, c2, cs ++ [.int .i64 x, .slice R row.length cR, .bool g], ?_, ?_, fun k e => ?_, ?_⟩, fun k hk => ?_, K0.mono (fun k _ e => ?_)⟩
    · rcases hk with hk | hk
      · have := h2 k hk; simp [World.setCell]; omega
      · simp [World.setCell]; omega
    · rw [heap_set (heap_set f1)]; simp
    · have o1 := ownsRow_setCell_other m1 (a := ⟨b, 0, none⟩) (fun e => oC b e rfl) (.slice A2 (vs.length + 1) c2)
      have o2 := ownsRow_setCell_other o1 (a := ⟨b, 1, none⟩) (fun e => oC b e rfl) (.int .i64 x)
      simpa using o2
    · have e' : (Value.slice A2 (vs.length + 1) c2).ownBlock = some k := by simpa using e
      refine ⟨?_, oC k e'⟩
      rcases m3 with m3 | m3
      · rw [m3] at e'; exact .inl (g3 k e').1
      · have := oB k e'; rw [m3] at e'; simp at e'; exact .inr ⟨by omega, this⟩
    · simp only [List.length_append, List.length_cons, List.length_nil, Nat.zero_add]
      refine VersAt.append (g4.mono (fun k hk => ⟨.inl hk.1, hk.2.1, nA k (.inl ⟨h2 k hk.1, hk.2.2⟩)⟩) (fun R' c' row' hb hF => hb.keeps K0 (fun ad e hh => ?_))) ⟨R, cR, [], rfl, ?_, fun ad e => ?_, rfl⟩
      · have := hF ad e
        rcases hh with hh | hh
        · exact this.2.1 hh
        · exact this.2.2 hh
      · exact (own_bsa k1).2.2.keeps K1 (fun ad e hh => by
          have := rB ad e
          rcases hh with hh | hh
          · omega
          · have := oA _ hh; omega)
      · have := rB ad e
        exact ⟨.inr ⟨this.1, by omega⟩, by omega, nA _ (.inr this)⟩
    · rcases hk with hk | hk
      · exact .inl hk
      · exact .inr hk.1
    · rcases e with e | e
      · subst e; exact h1
      · exact (g3 k e).1
  have HF := hid FIN
  have p1 := cell_at (heap_set (i := 0) (v := .slice A2 (vs.length + 1) c2) f1) (i := 1) (v := .int .i64 last) (by simp)
  have p2 := free_at (heap_set (i := 0) (v := .slice A2 (vs.length + 1) c2) f1) 1
  clear FIN HC m1 m2 m3 m4 d0 d1 f1 f0 k1 k2 k3 g1 g2 g3 g4 e0 e1
  generalize w2.setCell ⟨b, 0, none⟩ (.slice A2 (vs.length + 1) c2) = W at *
  go_wp2
  go_ret
  exact ⟨rfl, HF.out⟩
end Go.Proofs.Ytlfimleciemobab
