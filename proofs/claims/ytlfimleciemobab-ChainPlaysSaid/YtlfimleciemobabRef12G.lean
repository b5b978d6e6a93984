/- The walk of the reference's Put. -/
import Derived.Test.YtlfimleciemobabRef12F
set_option linter.unusedVariables false
set_option linter.unusedSimpArgs false
namespace Go.Proofs.Ytlfimleciemobab
open Go.RowKit PrintLast

theorem infoW : (Try.prog.info? 59).map (fun i => (i.zero, i.size, i.bytes)) = some (some (.agg #[.int .i64 0, .slice none 0 0, .bool false]), 3, 40) := by kernel_rfl

theorem rput_no {w : World} {A B : Option Addr} {n c n2 c2 : Nat} {last x : Int} {g : Bool} (hx : x ≤ last) :
    Calls Try.prog 16 #[.agg #[.slice A n c, .int .i64 last], .int .i64 x, .slice B n2 c2, .bool g] w fun e w' => e = .returned (.tuple #[.agg #[.slice A n c, .int .i64 last], .int .i64 1]) ∧ Below w.heap.size w w' := by
  have gw := heap_alloc2_old w (.cells #[.slice A n c, .int .i64 last] 38) (.cells #[.slice none 0 0, .int .i64 0] 38)
  have gn := heap_alloc2_new w (.cells #[.slice A n c, .int .i64 last] 38) (.cells #[.slice none 0 0, .int .i64 0] 38)
  have x0 := cell_at gw (i := 0) (v := .slice A n c) rfl
  have x1 := cell_at gw (i := 1) (v := .int .i64 last) rfl
  have K : Below w.heap.size w ((w.alloc (.cells #[.slice A n c, .int .i64 last] 38)).alloc (.cells #[.slice none 0 0, .int .i64 0] 38)) := below_alloc (below_alloc (Below.refl _ w) _) _
  go_enter Try.func16, Try.ntmps16
  clear gw gn x0 x1
  go_wp2
  refine bodyPost_ret (ret_cell_tmp rfl rfl (heap_alloc2_new w _ (.cells #[.slice A n c, .int .i64 last] 38)) Try.underlying38 rfl infoC) rfl ?_
  exact ⟨rfl, below_alloc (below_alloc (Below.refl _ w) _) _⟩

set_option maxHeartbeats 1600000 in
theorem rput_yes {G : Nat → Prop} {w : World} {A B : Option Addr} {c c2 : Nat} {us : List Ver} {row : List UInt8} {last x : Int} {g : Bool} (h : RdAt w G A c us) (hx : last < x) (hrow : BSA w B c2 row) (hbig : row.length ≤ 140737488355328) (hn : us.length < 1000000) :
    Calls Try.prog 16 #[.agg #[.slice A us.length c, .int .i64 last], .int .i64 x, .slice B row.length c2, .bool g] w fun e w' => ∃ A' c', e = .returned (.tuple #[.agg #[.slice A' (us.length + 1) c', .int .i64 x], .int .i64 0]) ∧ RdAt w' (fun k => G k ∨ w.heap.size ≤ k ∧ k < w'.heap.size) A' c' (us ++ [(⟨x, row, g⟩ : Ver)]) ∧ Below w.heap.size w w' := by
  obtain ⟨i0, ii, hz0, hz1, hz2⟩ := info_parts infoW
  have b2 : Below w.heap.size w ((w.alloc (.cells #[.slice A us.length c, .int .i64 last] 38)).alloc (.cells #[.slice none 0 0, .int .i64 0] 38)) := below_alloc (below_alloc (Below.refl _ w) _) _
  have hw := h.below b2
  have gw := heap_alloc2_old w (.cells #[.slice A us.length c, .int .i64 last] 38) (.cells #[.slice none 0 0, .int .i64 0] 38)
  have gn := heap_alloc2_new w (.cells #[.slice A us.length c, .int .i64 last] 38) (.cells #[.slice none 0 0, .int .i64 0] 38)
  have x0 := cell_at gw (i := 0) (v := .slice A us.length c) rfl
  have x1 := cell_at gw (i := 1) (v := .int .i64 last) rfl
  have hx' : decide (x ≤ last) = false := by simp; omega
  obtain ⟨hc1, hc2, hc3, cs, hv, hcs0⟩ := h
  have hcs : ∀ ad, A = some ad → 0 < us.length → G ad.block ∧ ∀ i (hi : i < cs.length), ((w.alloc (.cells #[.slice A us.length c, .int .i64 last] 38)).alloc (.cells #[.slice none 0 0, .int .i64 0] 38)).cell? (ad.add i) = some cs[i] := fun ad e hl => ⟨(hcs0 ad e hl).1, fun i hi => below_cell b2 ((hcs0 ad e hl).2 i hi)⟩
  have csl := hv.length
  have one := VersAt.one hv
  go_enter Try.func16, Try.ntmps16
  go_wp2_with (at_builtin; refine wpList_app rfl (.tmp 16) (.tmp 18) 36 rfl 59 i0 (.agg #[.int .i64 0, .slice none 0 0, .bool false]) 3 40 Try.underlying36 ii hz0 hz1 hz2 rfl (by decide) _ 0 [] rfl (World.ownsRow_nil _ _ _ _) A us.length c cs rfl csl ?tdHN ?tdNW one (by unfold maxLen; omega) (by omega) ?_)
  case tdHN => intro e; have := hc3 e; omega
  case tdNW =>
    intro ad e j u hu
    obtain ⟨hj, e'⟩ := List.getElem?_eq_some_iff.1 hu
    rw [← e']
    exact (hcs ad e (by omega)).2 j hj
  intro A1 c1 w1 m1 m2 m3 _
  have f0 := (m2.block w.heap.size (by simp; omega) (by simp [Value.ownBlock])).trans gw
  have f1 := (m2.block (w.heap.size + 1) (by simp) (by simp [Value.ownBlock])).trans gn
  have J := join_any ((hrow.below b2).keeps (S := fun _ => False) ((Keeps.refl _ _).grown m2 (fun k e _ => by simp [Value.ownBlock] at e)) (fun _ _ e => e)) (BSA.nil w1) (by simp; omega)
  simp only [List.length_nil, List.append_nil, Nat.add_zero] at J
  have HJ := hid J
  have b3 : Below w.heap.size w w1 := ((((Keeps.refl (fun _ => False) w).below b2).grown m2 (fun k e _ => by simp [Value.ownBlock] at e))).toBelow
  clear J hcs hcs0 gw gn x0 x1
  go_wp2_with fail
  refine HJ.out.mono ?_
  rintro e w2 ⟨R, cR, rfl, k⟩
  try simp only [Nat.zero_add, List.nil_append] at m1 m3
  have p0 := below_heap k.2.2 f0
  have p1 := below_heap k.2.2 f1
  go_wp2_with (at_builtin; refine wpList_app rfl (.tmp 20) (.tmp 26) 36 rfl 59 i0 (.agg #[.int .i64 0, .slice none 0 0, .bool false]) 3 40 Try.underlying36 ii hz0 hz1 hz2 rfl (by decide) _ us.length cs rfl ((below_own k.2.2 m1).alloc _) (some ⟨w2.heap.size, 0, none⟩) 1 1 [.int .i64 x, .slice R row.length cR, .bool g] rfl rfl (fun e => by cases e) ?tdNW ?tdON (by unfold maxLen; omega) (by omega) ?_)
  case tdNW => intro ad e j u hu; cases e; rw [add_plain]; exact cell_at (heap_alloc_new _ _) (by simpa using hu)
  case tdON => intro u hu; simp at hu; rcases hu with rfl | rfl | rfl <;> rfl
  intro A3 c3 w3 n1 n2 n3
  have l2 := lt_of_block p1
  have r1 := (n2.block (w.heap.size + 1) (by simp; omega) (fun e => by
    rcases m3 with m3 | m3
    · rw [m3] at e; simp [Value.ownBlock] at e
    · rw [m3] at e; simp at e)).trans (below_heap (below_alloc (Below.refl _ w2) _) p1)
  have d0 := cell_at r1 (i := 0) (v := .slice none 0 0) rfl
  have d1 := cell_at r1 (i := 1) (v := .int .i64 0) rfl
  have e0 := free_at r1 0
  have e1 := free_at r1 1
  have G1 : Hid (((w3.setCell ⟨w.heap.size + 1, 0, none⟩ (.slice A3 (us.length + 1) c3)).setCell ⟨w.heap.size + 1, 1, none⟩ (.int .i64 x)).heap[w.heap.size + 1]? = some (.cells #[.slice A3 (us.length + 1) c3, .int .i64 x] 38 (0, 0))) := hid (by
    rw [heap_set (heap_set r1)]; simp)
  clear p0 p1 f0 f1 r1 HJ
  have o1 := m1.lt
  have B4 : Below w.heap.size w ((w3.setCell ⟨w.heap.size + 1, 0, none⟩ (.slice A3 (us.length + 1) c3)).setCell ⟨w.heap.size + 1, 1, none⟩ (.int .i64 x)) :=
    ((((((Keeps.refl (fun _ => False) w).below b3).below k.2.2).alloc _).grown n2 (fun q e hq => by
      rcases m3 with m3 | m3
      · rw [m3] at e; simp [Value.ownBlock] at e
      · rw [m3] at e; simp at e; omega)).setCell (p := ⟨w.heap.size + 1, 0, none⟩) (fun e => by simp at e; omega) _ |>.setCell (p := ⟨w.heap.size + 1, 1, none⟩) (fun e => by simp at e; omega) _).toBelow
  have HB4 := hid B4
  clear B4
  go_wp2
  refine bodyPost_ret (ret_cell_tmp rfl rfl G1.out Try.underlying38 rfl infoC) rfl ?_
  refine ⟨A3, c3, rfl, ?_, HB4.out⟩
  have nb : (Value.slice A3 (us.length + 1) c3).ownBlock ≠ some (w.heap.size + 1) := fun e => by
    rcases n3 with n3 | n3
    · rw [n3] at e
      rcases m3 with m3 | m3
      · rw [m3] at e; simp [Value.ownBlock] at e
      · rw [m3] at e; simp at e
    · rw [n3] at e; simp at e; omega
  have o2 := ownsRow_setCell_other (ownsRow_setCell_other n1 (a := ⟨w.heap.size + 1, 0, none⟩) nb (.slice A3 (us.length + 1) c3)) (a := ⟨w.heap.size + 1, 1, none⟩) nb (.int .i64 x)
  have hrb : BSA ((w3.setCell ⟨w.heap.size + 1, 0, none⟩ (.slice A3 (us.length + 1) c3)).setCell ⟨w.heap.size + 1, 1, none⟩ (.int .i64 x)) R cR row := by
    have kk := (((((Keeps.refl (fun q => (Value.slice A1 us.length c1).ownBlock = some q ∨ q = w.heap.size + 1) w2).alloc _).grown n2 (fun q e _ => .inl e)).setCell (p := ⟨w.heap.size + 1, 0, none⟩) (fun _ => .inr rfl) (.slice A3 (us.length + 1) c3)).setCell (p := ⟨w.heap.size + 1, 1, none⟩) (fun _ => .inr rfl) (.int .i64 x))
    refine k.bsa.keeps kk (fun ad e hh => ?_)
    have u1 := k.2.1 ad.block (by rw [e]; rfl)
    have u2 := m2.size
    simp only [World.size_alloc] at u2
    rcases hh with hh | hh
    · have := (o1 _ hh).2; omega
    · omega
  have s23 := n2.size
  simp only [World.size_alloc] at s23
  have hRG : ∀ ad, R = some ad → G ad.block ∨ w.heap.size ≤ ad.block ∧ ad.block < ((w3.setCell ⟨w.heap.size + 1, 0, none⟩ (.slice A3 (us.length + 1) c3)).setCell ⟨w.heap.size + 1, 1, none⟩ (.int .i64 x)).heap.size := fun ad e => .inr (by
    have u1 := k.2.1 ad.block (by rw [e]; rfl)
    have u2 := (k.1.lt ad.block (by rw [e]; rfl)).2
    have := b3.size
    simp only [World.size_setCell]
    omega)
  rcases o2.2 with ⟨_, q0⟩ | ⟨q, cap, cur, q1, _, q2, q3, q4, _⟩
  · omega
  · cases q1
    refine ⟨by simpa using q3, q4, (fun e => by cases e), cs ++ [.int .i64 x, .slice R row.length cR, .bool g], (hv.mono (fun _ e => .inl e) (fun R d r hb' _ => hb'.below HB4.out)).append ⟨R, cR, [], rfl, hrb, hRG, rfl⟩, fun ad e _ => ?_⟩
    cases e
    have lq := lt_of_block q2
    refine ⟨.inr ⟨?_, lq⟩, fun i hi => o2.cells (g := q) rfl i _ (List.getElem?_eq_getElem hi)⟩
    show w.heap.size ≤ q
    rcases n3 with n3 | n3
    · rcases m3 with m3 | m3
      · rw [m3] at n3; simp [Value.ownBlock] at n3
      · rw [m3] at n3; simp [Value.ownBlock] at n3; omega
    · simp [Value.ownBlock] at n3; have := b3.size; have := k.2.2.size; omega
end Go.Proofs.Ytlfimleciemobab
