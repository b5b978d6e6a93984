/- TopSkew's walks: the three runs are settled. -/
import Derived.Test.YtnidgljkbmceaaaGreatDoorG31
set_option linter.unusedVariables false
set_option linter.unusedSimpArgs false
namespace Go.Proofs.YtnidgljkbmceaaaGreatDoor
open Go.RowKit PrintLast Go.Maps Go.MapKept
theorem list_one {α : Type} {l : List α} (h : l.length = 1) : ∃ a, l = [a] := by
  match l, h with
  | [a], _ => exact ⟨a, rfl⟩
theorem list_two {α : Type} {l : List α} (h : l.length = 2) : ∃ a b, l = [a, b] := by
  match l, h with
  | [a, b], _ => exact ⟨a, b, rfl⟩
theorem hypT {x : Fx} (lo : x.Low) (T1 M1 T2 M2 : Nat) (r1 r2 : Value) (w0 : World) : (runT x T1 M1 T2 M2 r1 r2).Hyp w0 (fun lo => TreeN (two (tx1 x T1 M1 r1) (tx2 x T2 M2 r2)) lo) [] where
  puts := fun l w1 hl _ => puts_new (n := 2) (by omega) hl (two_j (k_size _).2 (k_size _).2) (two_j (r_len _) (r_len _)) (fun _ => keys_path lo.ha lo.hb) (fun _ _ _ _ _ => trivial)
  htf := fun _ _ _ _ _ _ => trivial
  bel := fun w5 R' ns' rc' h1 h2 h3 _ => below_none h1 h2 h3
  trim := fun w6 ch y hc h1 h2 h3 h4 _ => by
    obtain ⟨C, D, rfl⟩ := list_two (show ch.length = 2 from hc)
    refine (strim_two h1 h2 (k_size _).2 (k_size _).2 (keys_ne lo.ha lo.hb) (keys_le lo.ha lo.hb) (h3 0 (by simp)).1 (h3 1 (by simp)).1 (by simpa using h4)).mono ?_
    rintro e w' ⟨rfl, q1, q2, q3⟩
    exact ⟨rfl, two_j (P := fun m => ∀ h : m < [C, D].length, ChainK w' [C, D][m] _) (fun _ => q1) (fun _ => q2) |> fun q m hm => q m hm hm, q3⟩
  low := fun y h => by cases h
theorem hypA {x : Fx} (lo : x.Low) (T1 M1 T2 M2 : Nat) (r1 : Value) {w0 : World} (hT : w0.heap[T2]? = some (.cells (txC M2) 306 (0, 0))) : (runA x T1 M1 T2 r1).Hyp w0 (fun lo => TreeN (fun _ => tx1 x T1 M1 r1) lo) [] where
  puts := fun l w1 hl _ => puts_new (n := 1) (by omega) hl (one_j (k_size _).2) (one_j (r_len _)) (fun h => absurd h (by omega)) (fun w2 w3 v h k => LeafK.keeps (show LeafK w2 (.pointer v) (keyS x.na) (rowN x.na) l from h) k (by decide) (fun _ q => by cases q))
  htf := fun l w1 w2 v h k => LeafK.keeps h k (by decide) (fun _ q => by cases q)
  bel := fun w5 R' ns' rc' h1 h2 h3 k => below_one h1 h2 h3 (by show 1 < 2; omega) (k.cells hT (by decide))
  trim := fun w6 ch y hc h1 h2 h3 h4 _ => by
    obtain ⟨C, rfl⟩ := list_one (show ch.length = 1 from hc)
    refine (strim_one h1 h2 (k_size _).2 (h3 0 (by simp)).1).mono ?_
    rintro e w' ⟨rfl, q1, q3⟩
    exact ⟨rfl, one_j (P := fun m => ∀ h : m < [C].length, ChainK w' [C][m] _) (fun _ => q1) |> fun q m hm => q m hm hm, q3⟩
  low := fun y h => by cases h
theorem hypB {x : Fx} (lo : x.Low) (T2 M2 : Nat) (r2 : Value) (C R rc l0 : Nat) (tv : Option Addr) (r : Option Nat) {w0 : World} (hC : ChainK w0 C 1) (lC : x.B0 ≤ C) (lf : LeafK w0 (.pointer tv) (keyS x.na) (rowN x.na) l0) (hr : ∀ k, r = some k → k < l0) : (runB x T2 M2 r2 C R rc tv r).Hyp w0 (fun _ => TreeN (fun | 0 => ⟨0, 0, 0, keyS x.na, .bool false, rowN x.na⟩ | j + 1 => (fun _ => tx2 x T2 M2 r2) j) l0 ∘ (· + 1)) [C] where
  puts := fun l w1 hl k => puts_more (LeafK.keeps lf k (by decide) (fun y hy => hr y (by simpa [runB] using hy))) (k_size _).2 (r_len _) (keys_path lo.ha lo.hb)
  htf := fun _ _ _ _ _ _ => trivial
  bel := fun w5 R' ns' rc' h1 h2 h3 _ => below_none h1 h2 h3
  trim := fun w6 ch y hc h1 h2 h3 h4 k => by
    obtain ⟨D, rfl⟩ := list_one (show ch.length = 1 from hc)
    have zC := hC.lt
    have zD := (h3 0 (by simp)).2
    refine (strim_two h1 h2 (k_size _).2 (k_size _).2 (keys_ne lo.ha lo.hb) (keys_le lo.ha lo.hb) (hC.keeps k (by decide)) (h3 0 (by simp)).1 (by simp at zD; omega)).mono ?_
    rintro e w' ⟨rfl, q1, q2, q3⟩
    exact ⟨rfl, one_j (P := fun m => ∀ h : m < [D].length, ChainK w' [D][m] _) (fun _ => q2) |> fun q m hm => q m hm hm, q3⟩
  low := fun y h => by
    obtain rfl := List.mem_singleton.1 h
    exact lC
theorem settleT {x : Fx} (lo : x.Low) {w : World} {T1 M1 T2 M2 : Nat} {r1 r2 : Value} (base : x.Base w) (led : w.heap[x.L]? = some (.cells (ledC x.Tb x.tc x.S x.O 2 x.R 1 x.rc) 95 (0, 0))) (opn : w.heap[x.O]? = some (.map #[en1 T1, en2 T2] 2)) (t1 : TxOk w (tx1 x T1 M1 r1)) (t2 : TxOk w (tx2 x T2 M2 r2)) (eng : EngH w x.B0 x.E x.L x.P c1w c2w 8 8) (que : w.heap[x.Q]? = some (.cells (quC 1 2 0 0 0 2) 160 (0, 0))) :
    Calls Tryz.prog 9 #[.pointer (some ⟨x.E, 0, none⟩), .int .i64 100] w fun e w' => (∃ v, e = .returned (.int .i64 v)) ∧ (runT x T1 M1 T2 M2 r1 r2).S5 2 w w' :=
  bsettle (b := runT x T1 M1 T2 M2 r1 r2) (okT lo _ _ _ _ _ _) (M := 100) (by omega) ⟨base.tab, led, base.sta, base.sto, base.smap, opn, two_j t1 t2, base.log⟩ (hypT lo _ _ _ _ _ _ w) (ptT _ _ _ _ _ _ _) (wkT _ _ _ _ _ _ _) eng base.grp que (fun w1 h => qpop_02 h)
theorem settleA {x : Fx} (lo : x.Low) {w : World} {T1 M1 T2 M2 : Nat} {r1 : Value} (base : x.Base w) (led : w.heap[x.L]? = some (.cells (ledC x.Tb x.tc x.S x.O 2 x.R 1 x.rc) 95 (0, 0))) (opn : w.heap[x.O]? = some (.map #[en1 T1, en2 T2] 2)) (t1 : TxOk w (tx1 x T1 M1 r1)) (hT : w.heap[T2]? = some (.cells (txC M2) 306 (0, 0))) (eng : EngH w x.B0 x.E x.L x.P c1w c2t 7 7) (que : w.heap[x.Q]? = some (.cells (quC 1 0 0 0 0 1) 160 (0, 0))) :
    Calls Tryz.prog 9 #[.pointer (some ⟨x.E, 0, none⟩), .int .i64 100] w fun e w' => (∃ v, e = .returned (.int .i64 v)) ∧ (runA x T1 M1 T2 r1).S5 1 w w' :=
  bsettle (b := runA x T1 M1 T2 r1) (okA lo _ _ _ _) (M := 100) (by omega) ⟨base.tab, led, base.sta, base.sto, base.smap, opn, one_j t1, base.log⟩ (hypA lo _ _ _ _ _ hT) (ptA _ _ _ _ _) (wkA _ _ _ _ _) eng base.grp que (fun w1 h => qpop_01 h)
theorem settleB {x : Fx} (lo : x.Low) {w : World} {T2 M2 C R rc l0 : Nat} {r2 : Value} {tv : Option Addr} {r : Option Nat} {tk td wv : Value} {N' : Int} (tab : TabB x.B0 w) (led : w.heap[x.L]? = some (.cells (ledC x.Tb x.tc x.S x.O 2 R 2 rc) 95 (0, 0))) (sta : StAt w R 2 rc tv) (lowR : x.B0 ≤ R) (sto : w.heap[x.S]? = some (.cells (stoC x.SM 1) 137 (0, 0))) (smap : w.heap[x.SM]? = some (.map #[entS (keyS x.na) (.pointer (some ⟨C, 0, none⟩)) 0] 1)) (opn : w.heap[x.O]? = some (.map #[en2 T2] 2)) (t2 : TxOk w (tx2 x T2 M2 r2)) (log : LogK w x.dk x.lg r 1) (lowr : ∀ k, r = some k → x.B0 ≤ k)
    (hC : ChainK w C 1) (lC : x.B0 ≤ C) (lf : LeafK w (.pointer tv) (keyS x.na) (rowN x.na) l0) (hr : ∀ k, r = some k → k < l0) (eng : EngH w x.B0 x.E x.L x.P wokeC c2w 8 14) (grp : w.heap[x.P]? = some (.cells (grpC x.L x.lg x.Q 0 tk td N' wv) 113 (0, 0))) (que : w.heap[x.Q]? = some (.cells (quC 1 2 0 0 1 1) 160 (0, 0))) :
    Calls Tryz.prog 9 #[.pointer (some ⟨x.E, 0, none⟩), .int .i64 100] w fun e w' => (∃ v, e = .returned (.int .i64 v)) ∧ (runB x T2 M2 r2 C R rc tv r).S5 1 w w' :=
  bsettle (b := runB x T2 M2 r2 C R rc tv r) (okB lo _ _ _ _ _ _ _ _ lowR lowr) (M := 100) (by omega) ⟨tab, led, sta, sto, smap, opn, one_j t2, log⟩ (hypB lo _ _ _ _ _ _ l0 _ _ hC lC lf hr) (ptB x T2 M2 r2 C R rc tv r) (wkB x T2 M2 r2 C R rc tv r) eng grp que (fun w1 h => qpop_11 h)
theorem last_heap {w0 : World} {o : Obj} {g : Nat} (hg : g = w0.heap.size) : (w0.alloc o).drew.heap[g]? = some o := by
  subst hg
  exact heap_alloc_new w0 o
theorem mid_heap {w0 : World} {o a b c : Obj} {g : Nat} (hg : g = w0.heap.size) : ((((w0.alloc o).alloc a).alloc b).alloc c).drew.heap[g]? = some o := by
  subst hg
  exact below_heap (below_alloc (below_alloc (below_alloc (Below.refl _ _) a) b) c) (heap_alloc_new w0 o)
set_option maxRecDepth 100000 in
set_option maxHeartbeats 1000000 in
theorem tables_k {w : World} : Calls Tryz.prog 6 #[.slice none 0 0] w fun e w' => ∃ T C c, e = .returned (.slice (some ⟨T, 0, none⟩) 1 c) ∧ TabK w' T C ∧ Below w.heap.size w w' := by
  have cv := conv_lit (w := w.alloc (.cells #[.slice none 0 0, .int .u8 0] 67)) [116, 48] (by decide) (n := 2) rfl
  rw [show (w.alloc (.cells #[.slice none 0 0, .int .u8 0] 67)).heap.size = w.heap.size + 1 by simp, show (bytesV [116, 48]).toArray = #[.int .u8 116, .int .u8 48] from rfl, show strB [116, 48] = ⟨#[116, 48]⟩ from rfl] at cv
  go_enter Tryz.func6, Tryz.ntmps6
  go_wp2
  refine wp_loop_rounds 2 ?_
  rw [rounds_succ]
  go_wp2
  refine wp_loop_rounds 1 ?_
  rw [rounds_succ]
  go_wp2
  refine wp_loop_rounds 1 ?_
  rw [rounds_succ]
  go_wp2
  rw [rounds_succ]
  go_wp2
  go_ret
  refine ⟨w.heap.size + 1 + 1 + 1 + 1 + 1, w.heap.size + 1 + 1, _, rfl, ⟨?_, ⟨_, last_heap (by simp)⟩, _, mid_heap (by simp)⟩, by go_grown⟩
  have e : ∀ (W : World) a, W.drew.cell? a = W.cell? a := fun _ _ => rfl
  refine ⟨?_, ?_, ?_, by go_cell, by go_cell, by go_cell⟩
  · rw [e]; exact last_cell (by simp) (by rfl)
  · rw [e]; exact last_cell (by simp) (by rfl)
  · rw [e]; exact last_cell (by simp) (by rfl)
end Go.Proofs.YtnidgljkbmceaaaGreatDoor
