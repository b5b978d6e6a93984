/- The walks of package chain: Len, Last, New, seen, Get. -/
import Derived.Test.YtlfimleciemobabChainA
set_option linter.unusedVariables false
set_option linter.unusedSimpArgs false
namespace Go.Proofs.Ytlfimleciemobab
open Go.RowKit PrintLast

theorem ChainAt.len_le {w : World} {F : Nat → Prop} {b : Nat} {vs : List Ver} {last : Int} (h : ChainAt w F b vs last) : vs.length ≤ 9223372036854775807 := by
  obtain ⟨_, _, A, c, cs, _, g2, _, _⟩ := h
  rcases g2.2 with ⟨_, h0⟩ | ⟨g, cap, cur, e, _, _, h1, h2, _⟩
  · omega
  · unfold maxLen at h2; omega

theorem len_any {w : World} {F : Nat → Prop} {b : Nat} {vs : List Ver} {last : Int} (h : ChainAt w F b vs last) :
    Calls Try.prog 20 #[.pointer (some ⟨b, 0, none⟩)] w fun e w' => e = .returned (.int .i64 (vs.length : Int)) ∧ w = w' := by
  obtain ⟨_, _, A, c, cs, g1, _⟩ := h
  have c0 := cell_at g1 (i := 0) (v := .slice A vs.length c) rfl
  clear g1
  go_enter Try.func20, Try.ntmps20
  go_wp2
  go_ret
  exact ⟨rfl, rfl⟩
theorem len_nil {w : World} : Calls Try.prog 20 #[.pointer none] w fun e w' => e = .returned (.int .i64 0) ∧ w = w' := by
  go_enter Try.func20, Try.ntmps20
  go_wp2
  go_ret
  exact ⟨rfl, rfl⟩
theorem last_any {w : World} {F : Nat → Prop} {b : Nat} {vs : List Ver} {last : Int} (h : ChainAt w F b vs last) :
    Calls Try.prog 19 #[.pointer (some ⟨b, 0, none⟩)] w fun e w' => e = .returned (.int .i64 last) ∧ w = w' := by
  obtain ⟨_, _, A, c, cs, g1, _⟩ := h
  have c0 := cell_at g1 (i := 1) (v := .int .i64 last) rfl
  clear g1
  go_enter Try.func19, Try.ntmps19
  go_wp2
  go_ret
  exact ⟨rfl, rfl⟩
theorem last_nil {w : World} : Calls Try.prog 19 #[.pointer none] w fun e w' => e = .returned (.int .i64 0) ∧ w = w' := by
  go_enter Try.func19, Try.ntmps19
  go_wp2
  go_ret
  exact ⟨rfl, rfl⟩
theorem new_any {w : World} : Calls Try.prog 10 #[] w fun e w' => e = .returned (.pointer (some ⟨w.heap.size, 0, none⟩)) ∧ ChainAt w' (fun k => k = w.heap.size) w.heap.size [] 0 ∧ Below w.heap.size w w' := by
  go_enter Try.func10, Try.ntmps10
  go_wp2
  go_ret
  exact ⟨rfl, ⟨rfl, fun k e => by simp; omega, none, 0, [], heap_alloc_new _ _, World.ownsRow_nil _ _ _ _, fun k e => by simp [Value.ownBlock] at e, rfl⟩, below_alloc (Below.refl _ _) _⟩

set_option maxHeartbeats 800000 in
theorem seen_any {w : World} {F : Nat → Prop} {b : Nat} {vs : List Ver} {last : Int} (h : ChainAt w F b vs last) (hr : Rising vs) (hn : vs.length < 4611686018427387904) (x : Int) :
    Calls Try.prog 22 #[.pointer (some ⟨b, 0, none⟩), .int .i64 x] w fun e w' => e = .returned (.int .i64 ((cnt vs x : Int) - 1)) ∧ Below w.heap.size w w' := by
  have hW := h.below (below_alloc (below_alloc (Below.refl _ w) (.cells #[.pointer (some ⟨b, 0, none⟩)] 24)) (.cells #[.int .i64 x] 2))
  have hB0 := heap_alloc2_old w (.cells #[.pointer (some ⟨b, 0, none⟩)] 24) (.cells #[.int .i64 x] 2)
  have hB1 := heap_alloc2_new w (.cells #[.pointer (some ⟨b, 0, none⟩)] 24) (.cells #[.int .i64 x] 2)
  have hcl := cnt_le vs x
  let p : Nat → Bool := fun i => if hi : i < vs.length then decide (x < vs[i].at_) else true
  have S := search_any (w := (w.alloc (.cells #[.pointer (some ⟨b, 0, none⟩)] 24)).alloc (.cells #[.int .i64 x] 2)) (n := vs.length) 25 Try.f25 Try.func25 (by kernel_rfl) (by rfl) #[.pointer (some ⟨w.heap.size, 0, none⟩), .pointer (some ⟨w.heap.size + 1, 0, none⟩)] p hn
    (fun W hb i hi => by
      have := seen1_any (hW.below hb) (below_heap hb hB0) (below_heap hb hB1) i hi
      rw [show p i = decide (x < vs[i].at_) from dif_pos hi]
      exact this)
    (fun a c hac hc ha => by
      have ha' : decide (x < vs[a].at_) = true := by have := ha; rw [show p a = decide (x < vs[a].at_) from dif_pos (by omega)] at this; exact this
      rw [show p c = decide (x < vs[c].at_) from dif_pos hc]
      rw [decide_eq_true_iff] at ha' ⊢
      rcases Nat.eq_or_lt_of_le hac with e | e
      · subst e; exact ha'
      · have := List.pairwise_iff_getElem.1 hr a c (by omega) hc e
        omega)
  have S' : Calls Try.prog 24 #[.int .i64 vs.length, .func (.func 25) #[] #[.pointer (some ⟨w.heap.size, 0, none⟩), .pointer (some ⟨w.heap.size + 1, 0, none⟩)]] ((w.alloc (.cells #[.pointer (some ⟨b, 0, none⟩)] 24)).alloc (.cells #[.int .i64 x] 2)) fun e w' => e = .returned (.int .i64 (cnt vs x : Int)) ∧ Below w.heap.size w w' := by
    refine S.mono ?_
    rintro e w' ⟨k, rfl, h1, h2, h3, h4⟩
    have : k = cnt vs x := cnt_eq hr h1
      (fun j hj hjk => by have := h2 j hjk; rw [show p j = decide (x < vs[j].at_) from dif_pos hj] at this; simpa using this)
      (fun j hj hjk => by have := h3 j hjk hj; rw [show p j = decide (x < vs[j].at_) from dif_pos hj] at this; simpa using this)
    subst this
    exact ⟨rfl, (below_alloc (below_alloc (Below.refl _ w) _) _).trans (h4.mono (by simp; omega))⟩
  have C := hid S'
  have L := hid (len_any hW)
  clear S S' hB0 hB1 hW h
  generalize cnt vs x = m at *
  go_enter Try.func22, Try.ntmps22
  go_wp2_with fail
  refine L.out.mono ?_
  rintro e w1 ⟨rfl, rfl⟩
  go_wp2_with fail
  refine C.out.mono ?_
  rintro e w2 ⟨rfl, hb⟩
  go_wp2
  go_ret
  exact ⟨rfl, hb⟩

set_option maxHeartbeats 800000 in
theorem seen_nil {w : World} (x : Int) :
    Calls Try.prog 22 #[.pointer none, .int .i64 x] w fun e w' => e = .returned (.int .i64 (-1)) ∧ Below w.heap.size w w' := by
  have S := search_any (w := (w.alloc (.cells #[.pointer none] 24)).alloc (.cells #[.int .i64 x] 2)) (n := 0) 25 Try.f25 Try.func25 (by kernel_rfl) (by rfl) #[.pointer (some ⟨w.heap.size, 0, none⟩), .pointer (some ⟨w.heap.size + 1, 0, none⟩)] (fun _ => true) (by omega)
    (fun W hb i hi => by omega) (fun a c hac hc ha => rfl)
  have C := hid S
  clear S
  go_enter Try.func22, Try.ntmps22
  go_wp2_with fail
  refine len_nil.mono ?_
  rintro e w1 ⟨rfl, rfl⟩
  go_wp2_with fail
  refine C.out.mono ?_
  rintro e w2 ⟨k, rfl, h1, _, _, hb⟩
  obtain rfl : k = 0 := by omega
  go_wp2
  go_ret
  exact ⟨rfl, (below_alloc (below_alloc (Below.refl _ w) _) _).trans (hb.mono (by simp; omega))⟩
end Go.Proofs.Ytlfimleciemobab
