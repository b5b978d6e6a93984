/- The walk of the reference's Trim. -/
import Derived.Test.YtlfimleciemobabRef12B
import Derived.Laws.ResultCell
import Derived.Laws.Rows
set_option linter.unusedVariables false
set_option linter.unusedSimpArgs false
namespace Go.Proofs.Ytlfimleciemobab
open Go.RowKit PrintLast

theorem infoC : (Try.prog.info? 38).map (·.size) = some 2 := by kernel_rfl
/-- A struct that is handed back by value out of its block, and one more result. -/
theorem ret_cell_tmp {P : Program} {fn : Func} {p u : Tmp} {ty : TypeId} (h : fn.results = #[.cell p ty, .tmp u]) {tmps : Array Value} {w : World} {g : Nat} {cs : Array Value} {t : TypeId} {fr : Nat × Nat} {d : TypeDesc} (hp : tmps.getD p undef = .pointer (some ⟨g, 0, none⟩)) (hg : w.heap[g]? = some (.cells cs t fr))
    (hu : P.underlying ty = some d) (hd : (match d with | .struct _ | .array _ _ => true | _ => false) = true) (hi : (P.info? ty).map (·.size) = some cs.size) :
    (results fn tmps).run P w = .ok (.tuple #[.agg cs, tmps.getD u undef]) w := by
  rw [results_cell_tmp h, hp]
  simp [asAddr, Result.andThen, run_loadVar_row w g t ty cs fr d hg hu hd hi]

theorem rtrim_zero {G : Nat → Prop} {w : World} {A : Option Addr} {c : Nat} {us : List Ver} {last x : Int} (h : RdAt w G A c us) (hr : Rising us) (h0 : cnt us x = 0) :
    Calls Try.prog 17 #[.agg #[.slice A us.length c, .int .i64 last], .int .i64 x] w fun e w' => e = .returned (.tuple #[.agg #[.slice A us.length c, .int .i64 last], .int .i64 0]) ∧ Below w.heap.size w w' := by
  have hw : RdAt ((w.alloc (.cells #[.slice A us.length c, .int .i64 last] 38)).alloc (.cells #[.slice none 0 0, .int .i64 0] 38)) G A c us := (h.below ((Below.refl _ w).alloc (Nat.le_refl _) _)).below ((Below.refl _ _).alloc (Nat.le_refl _) _)
  have gw := heap_alloc2_old w (.cells #[.slice A us.length c, .int .i64 last] 38) (.cells #[.slice none 0 0, .int .i64 0] 38)
  have gn := heap_alloc2_new w (.cells #[.slice A us.length c, .int .i64 last] 38) (.cells #[.slice none 0 0, .int .i64 0] 38)
  have S := rseen_any (last := last) (x := x) hw hr
  have hcap := h.1
  have hcm := h.2.1
  unfold maxLen at hcm
  rw [h0] at S
  have HS := hid S
  clear S h0
  have x0 := cell_at gw (i := 0) (v := .slice A us.length c) rfl
  have x1 := cell_at gw (i := 1) (v := .int .i64 last) rfl
  go_enter Try.func17, Try.ntmps17
  go_wp2_with fail
  refine HS.out.mono ?_
  rintro e w1 ⟨rfl, hb⟩
  have g0 := below_heap hb gw
  have g1 := below_heap hb gn
  have z0 := cell_at g0 (i := 0) (v := .slice A us.length c) rfl
  have z1 := cell_at g0 (i := 1) (v := .int .i64 last) rfl
  have n0 := cell_at g1 (i := 0) (v := .slice none 0 0) rfl
  have n1 := cell_at g1 (i := 1) (v := .int .i64 0) rfl
  have f0 := free_at g1 0
  have f1 := free_at g1 1
  have G1 : Hid (((w1.setCell ⟨w.heap.size + 1, 0, none⟩ (.slice A us.length c)).setCell ⟨w.heap.size + 1, 1, none⟩ (.int .i64 last)).heap[w.heap.size + 1]? = some (.cells #[.slice A us.length c, .int .i64 last] 38 (0, 0))) := hid (by
    rw [heap_set (heap_set g1)]; simp)
  clear x0 x1 g0 g1 gw gn HS hw
  go_wp2
  refine bodyPost_ret (ret_cell_tmp rfl rfl G1.out Try.underlying38 rfl infoC) rfl ?_
  exact ⟨rfl, (((((Keeps.refl (fun _ => False) w).alloc _).alloc _).below hb).setCell (p := ⟨w.heap.size + 1, 0, none⟩) (fun e => by simp at e; omega) _ |>.setCell (p := ⟨w.heap.size + 1, 1, none⟩) (fun e => by simp at e; omega) _).toBelow⟩
end Go.Proofs.Ytlfimleciemobab
