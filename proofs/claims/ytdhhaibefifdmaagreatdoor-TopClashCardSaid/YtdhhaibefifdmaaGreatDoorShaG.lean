/- The walks of sha.Sum and of the reference's constants. -/
import Derived.Test.YtdhhaibefifdmaaGreatDoorShaF
import Derived.Test.YtdhhaibefifdmaaGreatDoorNum
set_option linter.unusedVariables false
set_option linter.unusedSimpArgs false
namespace Go.Proofs.YtdhhaibefifdmaaGreatDoor
open Go.RowKit PrintLast

theorem Table.from_ {B : Nat} {w w' : World} (h : Table w) (hb : Below B w w') (hB : 0 < B) : Table w' := by
  obtain ⟨t, fr, h⟩ := h
  exact ⟨t, fr, by rw [hb.block _ hB]; exact h⟩

/-- sha.Sum of any bytes. -/
theorem sum_any {w : World} {A : Option Addr} {c : Nat} {p : List UInt8} (hT : Table w) (hp : BSA w A c p) (hn : p.length ≤ 1000000000000) :
    Calls Tryz.prog 18 #[.slice A p.length c] w fun e w' => e = .returned (.string ⟨(sum256 p).toArray⟩) ∧ Below w.heap.size w w' := by
  have hpb := hid (show ∀ ad, A = some ad → 0 < p.length → ad.block ≠ w.heap.size from fun ad e hl => by
    have := World.block_lt_of_cell? w _ (hp.2.2.2 ad e 0 hl)
    have e0 : (ad.add 0).block = ad.block := by unfold Addr.add; split <;> rfl
    omega)
  have hT0 := hT.pos
  go_enter Tryz.func18, Tryz.ntmps18
  go_wp2_with fail
  refine fresh_any.mono ?_
  rintro e w1 ⟨rfl, h1, b1⟩
  have HW := hid (write_any (hT.below b1) hT0 b1.size (Nat.le_refl _) (l := []) h1 (WaitAt.nil w1) (fun ad e => by cases e) (hp.below b1) hpb.out (.inl rfl) (by omega) (by simp; omega))
  clear h1 hpb
  go_wp2_with fail
  refine HW.out.mono ?_
  rintro e w2 ⟨rfl, ⟨R', c', k1, k2, k3⟩, k4⟩
  have b2 : Below w.heap.size w w2 := b1.trans k4
  have HT : HasT w2 w.heap.size w.heap.size p := ⟨Nat.le_refl _, R', c', by simpa using k1, by simpa using k2, k3⟩
  have HE := hid (end_any (hT.from_ b2 hT0) hT0 b2.size HT hn)
  clear HT k1 k2 k3 k4 HW
  go_wp2_with fail
  refine HE.out.mono ?_
  rintro e w3 ⟨rfl, b3⟩
  go_wp2
  go_ret
  exact ⟨rfl, b2.trans b3⟩

theorem below_row {B g : Nat} {w w' : World} (h : Below B w w') (hg : B ≤ g) (cs : Array Value) : Below B w (w'.setRow g cs) :=
  ⟨h.os, h.tape, h.output, by rw [setRow_size]; exact h.size, fun k hk => (setRow_other w' g k cs (by omega)).trans (h.block k hk)⟩
theorem below_set {B g i : Nat} {w w' : World} (h : Below B w w') (hg : B ≤ g) (v : Value) : Below B w (w'.setCell ⟨g, i, none⟩ v) := h.setCell (p := ⟨g, i, none⟩) hg v
set_option maxRecDepth 100000 in
set_option maxHeartbeats 6400000 in
theorem constants_any {w : World} : Calls Tryz.prog 98 #[] w fun e w' => e = .returned (.agg (u32s roundK)) ∧ Below w.heap.size w w' := by
  go_enter Tryz.func98, Tryz.ntmps98
  go_wp2_with (refine wpList_store_row rfl 205 (.tmp 0) (.tmp 1) rfl w.heap.size (u32s roundK) rfl rfl 205 _ (heap_alloc_new w _) (by kernel_rfl) rfl (u32s_one _) ?_)
  refine bodyPost_ret (results_cell_row rfl _ _ w.heap.size 205 (u32s roundK) (0, 0) _ rfl (setRow_heap _ w.heap.size _ _ _ _ (heap_alloc_new w _)) Tryz.underlying205 rfl (by kernel_rfl)) rfl ?_
  exact ⟨rfl, below_row (below_alloc (Below.refl _ w) _) (Nat.le_refl _) _⟩
end Go.Proofs.YtdhhaibefifdmaaGreatDoor
