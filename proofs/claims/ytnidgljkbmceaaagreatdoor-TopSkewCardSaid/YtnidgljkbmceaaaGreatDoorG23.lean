/- TopSkew's walks: the engine's cells. (printed by gen_do.py) -/
import Derived.Test.YtnidgljkbmceaaaGreatDoorG20
import Derived.Test.YtnidgljkbmceaaaGreatDoorG22
import Derived.Test.YtnidgljkbmceaaaGreatDoorPn
set_option linter.unusedVariables false
set_option linter.unusedSimpArgs false
namespace Go.Proofs.YtnidgljkbmceaaaGreatDoor
open Go.RowKit PrintLast Go.Maps Go.MapKept
structure Cli where
  tx : Int
  entry : Int
  waits : Bool
  e : Int
  replied : Bool
def cli0 : Cli := ⟨0, 0, false, 0, false⟩
def engS (L P : Nat) (a b : Cli) (h : Value) (now : Int) : Array Value := #[.pointer (some ⟨L, 0, none⟩), .pointer (some ⟨P, 0, none⟩), .int .i64 a.tx, .int .i64 a.entry, .bool a.waits, .int .i64 a.e, .bool false, .slice none 0 0, .slice none 0 0, .slice none 0 0, .bool a.replied, .int .i64 b.tx, .int .i64 b.entry, .bool b.waits, .int .i64 b.e, .bool false, .slice none 0 0, .slice none 0 0, .slice none 0 0, .bool b.replied, .int .i64 0, .int .i64 0, .bool false, .int .i64 0, .bool false, .slice none 0 0, .slice none 0 0, .slice none 0 0, .bool false, .int .i64 0, .int .i64 0, .bool false, .int .i64 0, .bool false, .slice none 0 0, .slice none 0 0, .slice none 0 0, .bool false, .int .i64 0, .int .i64 0, .bool false, .int .i64 0, .bool false, .slice none 0 0, .slice none 0 0, .slice none 0 0, .bool false, .int .i64 0, .int .i64 0, .bool false, .int .i64 0, .bool false, .slice none 0 0, .slice none 0 0, .slice none 0 0, .bool false, .int .i64 0, .int .i64 0, .bool false, .int .i64 0, .bool false, .slice none 0 0, .slice none 0 0, .slice none 0 0, .bool false, .int .i64 0, .int .i64 0, .bool false, .int .i64 0, .bool false, .slice none 0 0, .slice none 0 0, .slice none 0 0, .bool false, h, .int .i64 now]
def okV : Value := .agg #[.int .i64 0, .bool false, .slice none 0 0, .slice none 0 0, .slice none 0 0]
def set5 (w : World) (S o : Nat) (a b c d e : Value) : World := ((((w.setCell ⟨S, o, none⟩ a).setCell ⟨S, o + 1, none⟩ b).setCell ⟨S, o + 2, none⟩ c).setCell ⟨S, o + 3, none⟩ d).setCell ⟨S, o + 4, none⟩ e
def set15 (w : World) (T : Nat) (v0 v1 v2 v3 v4 v5 v6 v7 v8 v9 v10 v11 v12 v13 v14 : Value) : World := (((((((((((((((w.setCell ⟨T, 0, none⟩ (v0)).setCell ⟨T, 1, none⟩ (v1)).setCell ⟨T, 2, none⟩ (v2)).setCell ⟨T, 3, none⟩ (v3)).setCell ⟨T, 4, none⟩ (v4)).setCell ⟨T, 5, none⟩ (v5)).setCell ⟨T, 6, none⟩ (v6)).setCell ⟨T, 7, none⟩ (v7)).setCell ⟨T, 8, none⟩ (v8)).setCell ⟨T, 9, none⟩ (v9)).setCell ⟨T, 10, none⟩ (v10)).setCell ⟨T, 11, none⟩ (v11)).setCell ⟨T, 12, none⟩ (v12)).setCell ⟨T, 13, none⟩ (v13)).setCell ⟨T, 14, none⟩ (v14))
theorem set15_heap {w : World} {T : Nat} {x0 x1 x2 x3 x4 x5 x6 x7 x8 x9 x10 x11 x12 x13 x14 v0 v1 v2 v3 v4 v5 v6 v7 v8 v9 v10 v11 v12 v13 v14 : Value} {t : TypeId} (h : w.heap[T]? = some (.cells #[x0, x1, x2, x3, x4, x5, x6, x7, x8, x9, x10, x11, x12, x13, x14] t (0, 0))) : (set15 w T v0 v1 v2 v3 v4 v5 v6 v7 v8 v9 v10 v11 v12 v13 v14).heap[T]? = some (.cells #[v0, v1, v2, v3, v4, v5, v6, v7, v8, v9, v10, v11, v12, v13, v14] t (0, 0)) := by
  unfold set15
  rw [heap_set (heap_set (heap_set (heap_set (heap_set (heap_set (heap_set (heap_set (heap_set (heap_set (heap_set (heap_set (heap_set (heap_set (heap_set h))))))))))))))]
  simp only [List.setIfInBounds_toArray, List.set_cons_zero, List.set_cons_succ]
theorem set15_below {B : Nat} {w0 w : World} {T : Nat} {v0 v1 v2 v3 v4 v5 v6 v7 v8 v9 v10 v11 v12 v13 v14 : Value} (h : Below B w0 w) (hT : B ≤ T) : Below B w0 (set15 w T v0 v1 v2 v3 v4 v5 v6 v7 v8 v9 v10 v11 v12 v13 v14) := (((((((((((((((h.setCell (p := ⟨T, 0, none⟩) hT _).setCell (p := ⟨T, 1, none⟩) hT _).setCell (p := ⟨T, 2, none⟩) hT _).setCell (p := ⟨T, 3, none⟩) hT _).setCell (p := ⟨T, 4, none⟩) hT _).setCell (p := ⟨T, 5, none⟩) hT _).setCell (p := ⟨T, 6, none⟩) hT _).setCell (p := ⟨T, 7, none⟩) hT _).setCell (p := ⟨T, 8, none⟩) hT _).setCell (p := ⟨T, 9, none⟩) hT _).setCell (p := ⟨T, 10, none⟩) hT _).setCell (p := ⟨T, 11, none⟩) hT _).setCell (p := ⟨T, 12, none⟩) hT _).setCell (p := ⟨T, 13, none⟩) hT _).setCell (p := ⟨T, 14, none⟩) hT _)
theorem set5_heap {w : World} {S : Nat} {x0 x1 x2 x3 x4 a b c d e : Value} {t : TypeId} (h : w.heap[S]? = some (.cells #[x0, x1, x2, x3, x4] t (0, 0))) : (set5 w S 0 a b c d e).heap[S]? = some (.cells #[a, b, c, d, e] t (0, 0)) := by
  unfold set5
  rw [heap_set (heap_set (heap_set (heap_set (heap_set h))))]; rfl
section
variable {bs : List Nat} {ts : List TypeId} {ms rs : List Nat} {a w : World}
theorem KB.setNew (h : KB bs ts ms rs a w) {p : Addr} (hp : a.heap.size ≤ p.block) (u : Value) : KB bs ts ms rs a (w.setCell p u) := ⟨h.1.setNew hp u, fun B hB q => (h.2 B hB q).setCell (Nat.le_trans hB hp) u⟩
theorem KB.set5New (h : KB bs ts ms rs a w) {S o : Nat} (hp : a.heap.size ≤ S) (x y z u v : Value) : KB bs ts ms rs a (set5 w S o x y z u v) :=
  ((((h.setNew (p := ⟨S, o, none⟩) hp _).setNew (p := ⟨S, o + 1, none⟩) hp _).setNew (p := ⟨S, o + 2, none⟩) hp _).setNew (p := ⟨S, o + 3, none⟩) hp _).setNew (p := ⟨S, o + 4, none⟩) hp _
theorem KT.set5 (h : KT ts ms rs a w) {S o : Nat} {cs : Array Value} {t : TypeId} {fr : Nat × Nat} (hb : a.heap[S]? = some (.cells cs t fr)) (ht : t ∈ ts) (x y z u v : Value) : KT ts ms rs a (set5 w S o x y z u v) :=
  ((((h.set (p := ⟨S, o, none⟩) hb ht _).set (p := ⟨S, o + 1, none⟩) hb ht _).set (p := ⟨S, o + 2, none⟩) hb ht _).set (p := ⟨S, o + 3, none⟩) hb ht _).set (p := ⟨S, o + 4, none⟩) hb ht _
theorem KB.set5 (h : KB bs ts ms rs a w) {S o : Nat} {cs : Array Value} {t : TypeId} {fr : Nat × Nat} (hb : a.heap[S]? = some (.cells cs t fr)) (ht : t ∈ ts) (hm : S ∈ bs) (x y z u v : Value) : KB bs ts ms rs a (set5 w S o x y z u v) :=
  ((((h.set (p := ⟨S, o, none⟩) hb ht hm _).set (p := ⟨S, o + 1, none⟩) hb ht hm _).set (p := ⟨S, o + 2, none⟩) hb ht hm _).set (p := ⟨S, o + 3, none⟩) hb ht hm _).set (p := ⟨S, o + 4, none⟩) hb ht hm _
end
def HistK (w : World) (hv : Value) (n : Nat) : Prop := ∃ xs, w.ownsRow 0 81 15 hv n xs
theorem HistK.keeps {w w' : World} {ts : List TypeId} {ms rs : List Nat} {hv : Value} {n : Nat} (h : HistK w hv n) (hk : KT ts ms rs w w') (ht : 81 ∉ ts) : HistK w' hv n := by
  obtain ⟨xs, h⟩ := h
  exact ⟨xs, own_keeps h hk ⟨ht, by decide⟩⟩
theorem HistK.lt {w : World} {hv : Value} {n : Nat} (h : HistK w hv n) {k : Nat} (hk : hv.ownBlock = some k) : ∃ cur, w.heap[k]? = some (.cells cur 81 (0, 0)) := by
  obtain ⟨xs, h⟩ := h
  exact own_typed h hk
theorem infoVal : (Tryz.prog.info? 32).map (fun i => (i.zero, i.size, i.bytes)) = some (some (.agg #[.int .u8 0, .int .i64 0, .string ⟨#[]⟩]), 3, 32) := by kernel_rfl
theorem eqlVal (w : World) (a : Option Addr) (n c n' c' : Nat) : (binOp .eql 33 (.slice a n c) (.slice none n' c')).run Tryz.prog w = .ok (.bool a.isNone) w := Lib.run_eql_slice_nil w _ _ a n c n' c' Tryz.underlying33
set_option maxRecDepth 100000 in
set_option maxHeartbeats 1600000 in
theorem cloneV_one {w : World} {X n c : Nat} (h : ValsAt w X n) : Calls Tryz.prog 43 #[.slice (some ⟨X, 0, none⟩) 1 c] w fun e w' => ∃ A c', e = .returned (.slice A 1 c') ∧ Below w.heap.size w w' := by
  have q22 := @eqlVal
  obtain ⟨i0, hi, hz0, hz1, hz2⟩ := info_parts infoVal
  have al := below_alloc (Below.refl _ w) (.cells #[] 32)
  have H1 := hid (h.below al)
  have N1 : Hid (∀ (j : Nat) (u : Value), [Value.int .u8 1, .int .i64 (n : Int), .string ⟨#[]⟩][j]? = some u → (w.alloc (.cells #[] 32)).cell? ⟨X, j, none⟩ = some u) := hid (fun j u hu => by
    obtain ⟨g0, g1, g2⟩ := H1.out.get
    match j, hu with
    | 0, hu => simp at hu; subst hu; exact g0
    | 1, hu => simp at hu; subst hu; exact g1
    | 2, hu => simp at hu; subst hu; exact g2
    | j + 3, hu => simp at hu)
  clear h al
  go_enter Tryz.func43, Tryz.ntmps43
  go_wp2_with (at_builtin; refine wpList_app rfl (.tmp 5) (.tmp 6) 33 rfl 32 i0 (.agg #[.int .u8 0, .int .i64 0, .string ⟨#[]⟩]) 3 32 Tryz.underlying33 hi hz0 hz1 hz2 rfl (by decide) _ 0 [] rfl (own_empty w 32 3) (some ⟨X, 0, none⟩) 1 c [.int .u8 1, .int .i64 (n : Int), .string ⟨#[]⟩] rfl rfl (fun e => by cases e) (fun ad e j u hu => by cases e; rw [add_plain]; exact N1.out j u hu) (by intro u hu; simp at hu; rcases hu with rfl | rfl | rfl <;> rfl) (by unfold maxLen; omega) (by omega) ?_)
  intro A2 c2 w2 m1 m2 m3
  try simp only [List.nil_append, Nat.zero_add] at m1 m3 ⊢
  have FF := hid (show Below w.heap.size w w2 from ((Below.refl _ _).alloc (Nat.le_refl _) _).grown m2 (by simp) (fun k hk => by simp [Value.ownBlock] at hk; omega))
  clear m1 m2 m3 hi hz0 hz1 hz2
  go_wp2
  go_ret
  exact ⟨A2, c2, rfl, FF.out⟩
theorem copied_k {w : World} {kd : Int} {ra : Option Addr} {rn rc : Nat} (HC : ∀ w1, Below w.heap.size w w1 → Calls Tryz.prog 43 #[.slice ra rn rc] w1 fun e w' => ∃ A n c', e = .returned (.slice A n c') ∧ Below w1.heap.size w1 w') :
    Calls Tryz.prog 21 #[.agg #[.int .u8 kd, .int .i64 0, .slice ra rn rc, .string ⟨#[]⟩, .int .i64 0]] w fun e w' => ∃ A n c', e = .returned (.agg #[.int .u8 kd, .int .i64 0, .slice A n c', .string ⟨#[]⟩, .int .i64 0]) ∧ Below w.heap.size w w' := by
  obtain ⟨S, hS⟩ : ∃ S, S = w.heap.size := ⟨_, rfl⟩
  obtain ⟨S1, hS1⟩ : ∃ S1, S1 = S + 1 := ⟨_, rfl⟩
  obtain ⟨w1, hw1⟩ : ∃ w1, w1 = (w.alloc (.cells #[.int .u8 kd, .int .i64 0, .slice ra rn rc, .string ⟨#[]⟩, .int .i64 0] 42)).alloc (.cells #[.int .u8 0, .int .i64 0, .slice none 0 0, .string ⟨#[]⟩, .int .i64 0] 42) := ⟨_, rfl⟩
  have b1 : Below w.heap.size w w1 := by rw [hw1]; exact below_alloc (below_alloc (Below.refl _ _) _) _
  have g1 : w1.heap[S1]? = some (.cells #[.int .u8 0, .int .i64 0, .slice none 0 0, .string ⟨#[]⟩, .int .i64 0] 42 (0, 0)) := by
    rw [hw1, hS1, hS]
    have := heap_alloc_new (w.alloc (.cells #[.int .u8 kd, .int .i64 0, .slice ra rn rc, .string ⟨#[]⟩, .int .i64 0] 42)) (.cells #[.int .u8 0, .int .i64 0, .slice none 0 0, .string ⟨#[]⟩, .int .i64 0] 42)
    rw [show (w.alloc (.cells #[.int .u8 kd, .int .i64 0, .slice ra rn rc, .string ⟨#[]⟩, .int .i64 0] 42)).heap.size = w.heap.size + 1 by simp] at this
    exact this
  have g0 : w1.heap[S]? = some (.cells #[.int .u8 kd, .int .i64 0, .slice ra rn rc, .string ⟨#[]⟩, .int .i64 0] 42 (0, 0)) := by
    rw [hw1, hS]; exact below_heap (below_alloc (Below.refl _ _) _) (heap_alloc_new _ _)
  have H := hid (HC w1 b1)
  have W1 := hid (And.intro (show S1 = w.heap.size + 1 by omega) (And.intro hS hw1))
  have G1 := hid (And.intro g0 (And.intro g1 b1))
  have c2 := cell_at g0 (i := 2) (v := .slice ra rn rc) rfl
  clear HC b1 g1 g0 hw1 hS hS1
  go_enter Tryz.func21, Tryz.ntmps21
  go_upto_region 1 with fail
  rw [← W1.out.1, ← W1.out.2.1, ← W1.out.2.2]
  go_wp2_with fail
  refine H.out.mono ?_
  rintro e w2 ⟨A, n, c', rfl, b2⟩
  have h0 := below_heap b2 G1.out.1
  have h1 := below_heap b2 G1.out.2.1
  have f2 := free_at h0 2
  have d2 := cell_at h0 (i := 2) (v := .slice ra rn rc) rfl
  obtain ⟨w3, hw3⟩ : ∃ y, y = w2.setCell ⟨S, 2, none⟩ (.slice A n c') := ⟨_, rfl⟩
  have S10 : S1 ≠ S := by have := W1.out; omega
  have i0 : w3.heap[S]? = some (.cells #[.int .u8 kd, .int .i64 0, .slice A n c', .string ⟨#[]⟩, .int .i64 0] 42 (0, 0)) := by rw [hw3]; exact (heap_set h0).trans rfl
  have kS : Keeps (fun k => k = S) w2 w3 := by rw [hw3]; exact (Keeps.refl (fun k => k = S) w2).setCell (p := ⟨S, 2, none⟩) (fun _ => rfl) _
  have i1 := kS.heap h1 S10
  have b3 : Below w.heap.size w w3 := by rw [hw3]; exact (below_then G1.out.2.2 b2).setCell (p := ⟨S, 2, none⟩) (by have := W1.out; show w.heap.size ≤ S; omega) _
  have G3 := hid (And.intro i1 b3)
  have W3 := hid hw3
  clear h0 h1 c2 kS b2 b3 hw3 H S10
  go_upto_region 2 with fail
  rw [← W3.out]
  have q0 := cell_at i0 (i := 0) rfl
  have q1 := cell_at i0 (i := 1) rfl
  have q2 := cell_at i0 (i := 2) rfl
  have q3 := cell_at i0 (i := 3) rfl
  have q4 := cell_at i0 (i := 4) rfl
  have p0 := cell_at i1 (i := 0) rfl
  have p1 := cell_at i1 (i := 1) rfl
  have p2 := cell_at i1 (i := 2) rfl
  have p3 := cell_at i1 (i := 3) rfl
  have p4 := cell_at i1 (i := 4) rfl
  have r0 := free_at i1 0
  have r1 := free_at i1 1
  have r2 := free_at i1 2
  have r3 := free_at i1 3
  have r4 := free_at i1 4
  clear i0 i1 f2 d2
  go_wp2
  obtain ⟨X4, hX4⟩ : ∃ y, y = set5 w3 S1 0 (.int .u8 kd) (.int .i64 0) (.slice A n c') (.string ⟨#[]⟩) (.int .i64 0) := ⟨_, rfl⟩
  have g7 : X4.heap[S1]? = some (.cells #[.int .u8 kd, .int .i64 0, .slice A n c', .string ⟨#[]⟩, .int .i64 0] 42 (0, 0)) := by rw [hX4]; exact set5_heap G3.out.1
  have bF : Below w.heap.size w X4 := by
    rw [hX4]
    exact ((KB.of_below (bs := []) (ts := []) (ms := []) (rs := []) G3.out.2).set5New (by have := W1.out; omega) _ _ _ _ _).2 _ (Nat.le_refl _) (by simp)
  have FIN := hid bF
  have G7 := hid g7
  have HX4 := hid (show ((((w3.setCell ⟨S1, 0, none⟩ (.int .u8 kd)).setCell ⟨S1, 1, none⟩ (.int .i64 0)).setCell ⟨S1, 2, none⟩ (.slice A n c')).setCell ⟨S1, 3, none⟩ (.string ⟨#[]⟩)).setCell ⟨S1, 4, none⟩ (.int .i64 0) = X4 from hX4.symm)
  clear hX4 g7 bF q0 q1 q2 q3 q4 p0 p1 p2 p3 p4 r0 r1 r2 r3 r4
  rw [HX4.out]
  try simp only [Exit.inBlock, Exit.then]
  refine bodyPost_ret (ret_cell_one rfl rfl G7.out Tryz.underlying42 rfl infCall) rfl ?_
  exact ⟨A, n, c', rfl, FIN.out⟩
theorem one_no {w : World} : Calls Tryz.prog 74 #[.slice none 0 0, .bool false] w fun e w' => e = .returned (.slice none 0 0) ∧ w = w' := by
  go_enter Tryz.func74, Tryz.ntmps74
  go_wp2
  go_ret
  exact ⟨rfl, rfl⟩
set_option maxRecDepth 100000 in
set_option maxHeartbeats 6400000 in
theorem within_get {w : World} {E L off : Nat} {id : Int} {ra : Option Addr} {rn rc : Nat} (hL : w.cell? ⟨E, 0, none⟩ = some (.pointer (some ⟨L, 0, none⟩))) (hx : w.cell? ⟨E, off, none⟩ = some (.int .i64 id)) (h0 : id ≠ 0)
    (HG : ∀ w1, Below w.heap.size w w1 → Calls Tryz.prog 73 #[.pointer (some ⟨L, 0, none⟩), .int .i64 id, .int .i64 0, .slice ra rn rc] w1 fun e w' => e = .returned (.tuple #[.slice none 0 0, .bool false, .int .i64 0]) ∧ Below w1.heap.size w1 w') :
    Calls Tryz.prog 40 #[.pointer (some ⟨E, 0, none⟩), .pointer (some ⟨E, off, none⟩), .agg #[.int .u8 2, .int .i64 0, .slice ra rn rc, .string ⟨#[]⟩, .int .i64 0]] w fun e w' => e = .returned okV ∧ Below w.heap.size w w' := by
  obtain ⟨S, hS⟩ : ∃ S, S = w.heap.size := ⟨_, rfl⟩
  obtain ⟨S1, hS1⟩ : ∃ S1, S1 = S + 1 := ⟨_, rfl⟩
  obtain ⟨w1, hw1⟩ : ∃ w1, w1 = (w.alloc (.cells #[.int .u8 2, .int .i64 0, .slice ra rn rc, .string ⟨#[]⟩, .int .i64 0] 42)).alloc (.cells #[.int .i64 0, .bool false, .slice none 0 0, .slice none 0 0, .slice none 0 0] 38) := ⟨_, rfl⟩
  have b1 : Below w.heap.size w w1 := by rw [hw1]; exact below_alloc (below_alloc (Below.refl _ _) _) _
  have g1 : w1.heap[S1]? = some (.cells #[.int .i64 0, .bool false, .slice none 0 0, .slice none 0 0, .slice none 0 0] 38 (0, 0)) := by
    rw [hw1, hS1, hS]
    have := heap_alloc_new (w.alloc (.cells #[.int .u8 2, .int .i64 0, .slice ra rn rc, .string ⟨#[]⟩, .int .i64 0] 42)) (.cells #[.int .i64 0, .bool false, .slice none 0 0, .slice none 0 0, .slice none 0 0] 38)
    rw [show (w.alloc (.cells #[.int .u8 2, .int .i64 0, .slice ra rn rc, .string ⟨#[]⟩, .int .i64 0] 42)).heap.size = w.heap.size + 1 by simp] at this
    exact this
  have g0 : w1.heap[S]? = some (.cells #[.int .u8 2, .int .i64 0, .slice ra rn rc, .string ⟨#[]⟩, .int .i64 0] 42 (0, 0)) := by
    rw [hw1, hS]; exact below_heap (below_alloc (Below.refl _ _) _) (heap_alloc_new _ _)
  have t0 : (id == 0) = false := by simpa using h0
  have cL := below_cell b1 hL
  have cx := below_cell b1 hx
  have c0 := cell_at g0 (i := 0) (v := .int .u8 2) rfl
  have c1 := cell_at g0 (i := 1) (v := .int .i64 0) rfl
  have c2 := cell_at g0 (i := 2) (v := .slice ra rn rc) rfl
  have HH := hid HG
  have W1 := hid (And.intro (show S1 = w.heap.size + 1 by omega) (And.intro hS hw1))
  have G1 := hid (And.intro g1 b1)
  unfold okV
  clear HG g1 b1 g0 hw1 hS hS1 hL hx h0
  go_enter Tryz.func40, Tryz.ntmps40
  go_upto_region 1 with fail
  rw [← W1.out.1, ← W1.out.2.1, ← W1.out.2.2]
  go_upto_region 6 with fail
  refine start_ (n := 22) (S := fun w' => w'.cell? ⟨E, 0, none⟩ = some (.pointer (some ⟨L, 0, none⟩)) ∧ w'.cell? ⟨E, off, none⟩ = some (.int .i64 id) ∧ w'.cell? ⟨S, 1, none⟩ = some (.int .i64 0) ∧ w'.cell? ⟨S, 2, none⟩ = some (.slice ra rn rc) ∧ Below w1.heap.size w1 w') (ds := [12, 19, 21]) (tf 22 0) (by kernel_rfl) rfl rfl ⟨cL, cx, c1, c2, (Below.refl w1.heap.size w1).drew⟩ (fun hHeld => ?_); refine pure_ (i := 0) (N := some 19) (v := ?_) (a' := ?_) (tf 22 1) rfl rfl (by kernel_rfl) (fun _ _ _ h => h) (Or.inl ⟨by rfl, ?_⟩) ?_ ?_; rotate_left; (· intro w'; go_simp; (with_reducible rfl)); rotate_left; (· simp only [pn_]; rfl); refine pure_ (i := 1) (N := some 20) (v := ?_) (a' := ?_) (tf 22 3) rfl rfl (by kernel_rfl) (fun _ _ _ h => h) (Or.inl ⟨by rfl, ?_⟩) ?_ ?_; rotate_left; (· intro w'; go_simp; (with_reducible rfl)); rotate_left; (· simp only [pn_]; rfl); refine pure_ (i := 2) (N := some 21) (v := ?_) (a' := ?_) (tf 22 7) rfl rfl (by kernel_rfl) (fun _ _ _ h => h) (Or.inl ⟨by rfl, ?_⟩) ?_ ?_; rotate_left; (· intro w'; go_simp; (with_reducible rfl)); rotate_left; (· simp only [pn_]; rfl); refine pure_ (i := 4) (N := some 23) (v := ?_) (a' := ?_) (tf 22 23) rfl rfl (by kernel_rfl) (fun _ _ _ h => h) (Or.inl ⟨by rfl, ?_⟩) ?_ ?_; rotate_left; (· intro w'; go_simp; (with_reducible rfl)); rotate_left; (· simp only [pn_]; rfl); refine pure_ (i := 5) (N := some 24) (v := ?_) (a' := ?_) (tf 22 55) rfl rfl (by kernel_rfl) (fun _ _ _ h => h) (Or.inl ⟨by rfl, ?_⟩) ?_ ?_; rotate_left; (· intro w'; go_simp; (with_reducible rfl)); rotate_left; (· simp only [pn_]; rfl); refine pure_ (i := 6) (N := some 25) (v := ?_) (a' := ?_) (tf 22 119) rfl rfl (by kernel_rfl) (fun _ _ _ h => h) (Or.inl ⟨by rfl, ?_⟩) ?_ ?_; rotate_left; (· intro w'; go_simp; (with_reducible rfl)); rotate_left; (· simp only [pn_]; rfl); refine pure_ (i := 8) (N := some 27) (v := ?_) (a' := ?_) (tf 22 375) rfl rfl (by kernel_rfl) (fun _ _ _ h => h) (Or.inl ⟨by rfl, ?_⟩) ?_ ?_; rotate_left; (· intro w'; go_simp; (with_reducible rfl)); rotate_left; (· simp only [pn_]; rfl); refine pure_ (i := 10) (N := some 29) (v := ?_) (a' := ?_) (tf 22 1399) rfl rfl (by kernel_rfl) (fun _ _ _ h => h) (Or.inl ⟨by rfl, ?_⟩) ?_ ?_; rotate_left; (· intro w'; go_simp; (with_reducible rfl)); rotate_left; (· simp only [pn_]; rfl); refine take_ (i := 3) (N := some 22) (v := ?_) (a' := ?_) (tf 22 1407) rfl rfl (by kernel_rfl) (fun _ _ _ h => h) (Or.inl ⟨by rfl, ?_⟩) hHeld ?_ ?_; rotate_left; (· rintro w' ⟨s0, s1, s2, s3, s4⟩; go_simp; (with_reducible rfl)); rotate_left; (· simp only [pn_]; rfl); refine take_ (i := 7) (N := some 26) (v := ?_) (a' := ?_) (tf 22 1535) rfl rfl (by kernel_rfl) (fun _ _ _ h => h) (Or.inl ⟨by rfl, ?_⟩) hHeld ?_ ?_; rotate_left; (· rintro w' ⟨s0, s1, s2, s3, s4⟩; go_simp; (with_reducible rfl)); rotate_left; (· simp only [pn_]; rfl); refine take_ (i := 9) (N := some 28) (v := ?_) (a' := ?_) (tf 22 2047) rfl rfl (by kernel_rfl) (fun _ _ _ h => h) (Or.inl ⟨by rfl, ?_⟩) hHeld ?_ ?_; rotate_left; (· rintro w' ⟨s0, s1, s2, s3, s4⟩; go_simp; (with_reducible rfl)); rotate_left; (· simp only [pn_]; rfl); refine take_ (i := 11) (N := some 30) (v := ?_) (a' := ?_) (tf 22 4095) rfl rfl (by kernel_rfl) (fun _ _ _ h => h) (Or.inl ⟨by rfl, ?_⟩) hHeld ?_ ?_; rotate_left; (· rintro w' ⟨s0, s1, s2, s3, s4⟩; go_simp; (with_reducible rfl)); rotate_left; (· simp only [pn_]; rfl); refine last_ (i := 12) (N := some 31) (tf 22 8191) rfl rfl (by kernel_rfl) (by decide) (fun K hK => ?_); refine goes_ Tryz.func73 (by kernel_rfl) rfl #[.pointer (some ⟨L, 0, none⟩), .int .i64 id, .int .i64 0, .slice ra rn rc] (by rfl) rfl rfl (by simp only [List.map_toArray, List.map_cons, List.map_nil]; rfl) ?_; (with_reducible refine ((HH.out _ (below_then G1.out.2 hHeld.2.2.2.2))).mono ?_); rintro e w2 ⟨rfl, b2⟩; refine ⟨_, rfl, ?_⟩; have b12 := below_then hHeld.2.2.2.2 b2; have h1 := below_heap b12 G1.out.1; have f0 := free_at h1 0; have f1 := free_at h1 1; have d0 := cell_at h1 (i := 0) (v := .int .i64 0) rfl; have d1 := cell_at h1 (i := 1) (v := .bool false) rfl; refine hK.out _ _ ?_; clear hK K; refine norm_ (a' := ?_) ?_ ?_; rotate_left; (· show Act.put _ (some 31) _ = _; simp only [pn_]; rfl); refine pure_ (i := 13) (N := some 18) (v := ?_) (a' := ?_) (tf 22 16383) rfl rfl (by kernel_rfl) (fun _ _ _ h => h) (Or.inl ⟨by rfl, ?_⟩) ?_ ?_; rotate_left; (· intro w'; go_simp; (with_reducible rfl)); rotate_left; (· simp only [pn_]; rfl); refine pure_ (i := 14) (N := some 32) (v := ?_) (a' := ?_) (tf 22 32767) rfl rfl (by kernel_rfl) (fun _ _ _ h => h) (Or.inl ⟨by rfl, ?_⟩) ?_ ?_; rotate_left; (· intro w'; go_simp; (with_reducible rfl)); rotate_left; (· simp only [pn_]; rfl); refine pure_ (i := 15) (N := some 33) (v := ?_) (a' := ?_) (tf 22 65535) rfl rfl (by kernel_rfl) (fun _ _ _ h => h) (Or.inl ⟨by rfl, ?_⟩) ?_ ?_; rotate_left; (· intro w'; go_simp; (with_reducible rfl)); rotate_left; (· simp only [pn_]; rfl); refine pure_ (i := 16) (N := some 34) (v := ?_) (a' := ?_) (tf 22 131071) rfl rfl (by kernel_rfl) (fun _ _ _ h => h) (Or.inl ⟨by rfl, ?_⟩) ?_ ?_; rotate_left; (· intro w'; go_simp; (with_reducible rfl)); rotate_left; (· simp only [pn_]; rfl); refine pure_ (i := 17) (N := some 7) (v := ?_) (a' := ?_) (tf 22 262143) rfl rfl (by kernel_rfl) (fun _ _ _ h => h) (Or.inl ⟨by rfl, ?_⟩) ?_ ?_; rotate_left; (· intro w'; go_simp; (with_reducible rfl)); rotate_left; (· simp only [pn_]; rfl); refine pure_ (i := 18) (N := some 35) (v := ?_) (a' := ?_) (tf 22 524287) rfl rfl (by kernel_rfl) (fun _ _ _ h => h) (Or.inl ⟨by rfl, ?_⟩) ?_ ?_; rotate_left; (· intro w'; go_simp; (with_reducible rfl)); rotate_left; (· simp only [pn_]; rfl); refine last_ (i := 19) (N := none) (tf 22 1048575) rfl rfl (by kernel_rfl) (by decide) (fun K hK => ?_); refine skip_ (w1 := ?_) (by rfl) rfl ?_ ?_; rotate_left; (· go_simp; rfl); refine hK.out _ _ ?_; clear hK K; refine pure_ (i := 20) (N := some 36) (v := ?_) (a' := ?_) (tf 22 2097151) rfl rfl (by kernel_rfl) (fun _ _ _ h => h) (Or.inl ⟨by rfl, ?_⟩) ?_ ?_; rotate_left; (· intro w'; go_simp; (with_reducible rfl)); rotate_left; (· simp only [pn_]; rfl); refine last_ (i := 21) (N := none) (tf 22 4194303) rfl rfl (by kernel_rfl) (by decide) (fun K hK => ?_); refine skip_ (w1 := ?_) (by rfl) rfl ?_ ?_; rotate_left; (· go_simp; rfl); refine hK.out _ _ ?_; clear hK K; refine done_ (by kernel_rfl) ?_
  obtain ⟨w3, hw3⟩ : ∃ y, y = (w2.setCell ⟨S1, 1, none⟩ (.bool false)).setCell ⟨S1, 0, none⟩ (.int .i64 0) := ⟨_, rfl⟩
  have h3 : w3.heap[S1]? = some (.cells #[.int .i64 0, .bool false, .slice none 0 0, .slice none 0 0, .slice none 0 0] 38 (0, 0)) := by rw [hw3]; exact (heap_set (heap_set h1)).trans rfl
  have hs1 : w.heap.size ≤ S1 := by have := W1.out; omega
  have b3 : Below w.heap.size w w3 := by rw [hw3]; exact ((below_then G1.out.2 b12).setCell (p := ⟨S1, 1, none⟩) hs1 _).setCell (p := ⟨S1, 0, none⟩) hs1 _
  rw [← hw3]
  have e1 := cell_at h3 (i := 1) (v := .bool false) rfl
  have HO := hid (one_no (w := w3))
  have F3 := hid (And.intro h3 (And.intro b3 hs1))
  clear hw3 h3 b3 hs1 h1 b12 b2 f0 f1 d0 d1 cL cx c0 c1 c2 HH
  go_wp2_with fail
  refine HO.out.mono ?_
  rintro e _ ⟨rfl, rfl⟩
  have f2 := free_at F3.out.1 2
  have d2 := cell_at F3.out.1 (i := 2) (v := .slice none 0 0) rfl
  obtain ⟨w4, hw4⟩ : ∃ y, y = w3.setCell ⟨S1, 2, none⟩ (.slice none 0 0) := ⟨_, rfl⟩
  have gR : w4.heap[S1]? = some (.cells #[.int .i64 0, .bool false, .slice none 0 0, .slice none 0 0, .slice none 0 0] 38 (0, 0)) := by rw [hw4]; exact (heap_set F3.out.1).trans rfl
  have b4 : Below w.heap.size w w4 := by rw [hw4]; exact F3.out.2.1.setCell (p := ⟨S1, 2, none⟩) F3.out.2.2 _
  have F4 := hid (And.intro b4 F3.out.2.2)
  have W4 := hid hw4
  clear hw4 b4 HO F3 e1
  go_upto_region 17 with fail
  rw [← W4.out]
  clear f2 d2
  have q0 := cell_at gR (i := 0) rfl
  have q1 := cell_at gR (i := 1) rfl
  have q2 := cell_at gR (i := 2) rfl
  have q3 := cell_at gR (i := 3) rfl
  have q4 := cell_at gR (i := 4) rfl
  have f0 := free_at gR 0
  have f1 := free_at gR 1
  have f2 := free_at gR 2
  have f3 := free_at gR 3
  have f4 := free_at gR 4
  have GR := hid gR
  clear gR
  go_wp2
  obtain ⟨X4, hX4⟩ : ∃ y, y = set5 w4 S1 0 (.int .i64 0) (.bool false) (.slice none 0 0) (.slice none 0 0) (.slice none 0 0) := ⟨_, rfl⟩
  have g7 : X4.heap[S1]? = some (.cells #[.int .i64 0, .bool false, .slice none 0 0, .slice none 0 0, .slice none 0 0] 38 (0, 0)) := by rw [hX4]; exact set5_heap GR.out
  have kS : KT [38] [] [] w4 X4 := by rw [hX4]; exact (KT.refl _ _ _ _).set5 GR.out (by simp) _ _ _ _ _
  have FIN := hid (show Below w.heap.size w X4 by rw [hX4]; exact ((KB.of_below (bs := []) (ts := []) (ms := []) (rs := []) F4.out.1).set5New F4.out.2 _ _ _ _ _).2 _ (Nat.le_refl _) (by simp))
  have G7 := hid g7
  have HX4 := hid (show (((((w4.setCell ⟨S1, 0, none⟩ (.int .i64 0)).setCell ⟨S1, 1, none⟩ (.bool false)).setCell ⟨S1, 2, none⟩ (.slice none 0 0)).setCell ⟨S1, 3, none⟩ (.slice none 0 0)).setCell ⟨S1, 4, none⟩ (.slice none 0 0)) = X4 from hX4.symm)
  clear hX4 g7 kS q0 q1 q2 q3 q4 f0 f1 f2 f3 f4
  rw [HX4.out]
  try simp only [Exit.inBlock, Exit.then]
  refine bodyPost_ret (ret_cell_one rfl rfl G7.out Tryz.underlying38 rfl infReply) rfl ?_
  exact ⟨rfl, FIN.out⟩
set_option maxRecDepth 100000 in
set_option maxHeartbeats 6400000 in
theorem within_put {w : World} {E L off : Nat} {id : Int} {ra : Option Addr} {rn rc : Nat} {bs : List Nat} {ts : List TypeId} {ms rs : List Nat} {ZB : World → Prop} (hL : w.cell? ⟨E, 0, none⟩ = some (.pointer (some ⟨L, 0, none⟩))) (hx : w.cell? ⟨E, off, none⟩ = some (.int .i64 id)) (h0 : id ≠ 0)
    (HP : ∀ w1, Below w.heap.size w w1 → Calls Tryz.prog 76 #[.pointer (some ⟨L, 0, none⟩), .int .i64 id, .int .i64 0, .slice ra rn rc] w1 fun e w' => e = .returned (.int .i64 0) ∧ ZB w' ∧ KB bs ts ms rs w1 w') (ht : 38 ∉ ts) (hZ : ∀ w1 w2, ZB w1 → KT [38] [] [] w1 w2 → ZB w2) :
    Calls Tryz.prog 40 #[.pointer (some ⟨E, 0, none⟩), .pointer (some ⟨E, off, none⟩), .agg #[.int .u8 4, .int .i64 0, .slice ra rn rc, .string ⟨#[]⟩, .int .i64 0]] w fun e w' => e = .returned okV ∧ ZB w' ∧ KB bs ts ms rs w w' := by
  obtain ⟨S, hS⟩ : ∃ S, S = w.heap.size := ⟨_, rfl⟩
  obtain ⟨S1, hS1⟩ : ∃ S1, S1 = S + 1 := ⟨_, rfl⟩
  obtain ⟨w1, hw1⟩ : ∃ w1, w1 = (w.alloc (.cells #[.int .u8 4, .int .i64 0, .slice ra rn rc, .string ⟨#[]⟩, .int .i64 0] 42)).alloc (.cells #[.int .i64 0, .bool false, .slice none 0 0, .slice none 0 0, .slice none 0 0] 38) := ⟨_, rfl⟩
  have b1 : Below w.heap.size w w1 := by rw [hw1]; exact below_alloc (below_alloc (Below.refl _ _) _) _
  have g1 : w1.heap[S1]? = some (.cells #[.int .i64 0, .bool false, .slice none 0 0, .slice none 0 0, .slice none 0 0] 38 (0, 0)) := by
    rw [hw1, hS1, hS]
    have := heap_alloc_new (w.alloc (.cells #[.int .u8 4, .int .i64 0, .slice ra rn rc, .string ⟨#[]⟩, .int .i64 0] 42)) (.cells #[.int .i64 0, .bool false, .slice none 0 0, .slice none 0 0, .slice none 0 0] 38)
    rw [show (w.alloc (.cells #[.int .u8 4, .int .i64 0, .slice ra rn rc, .string ⟨#[]⟩, .int .i64 0] 42)).heap.size = w.heap.size + 1 by simp] at this
    exact this
  have g0 : w1.heap[S]? = some (.cells #[.int .u8 4, .int .i64 0, .slice ra rn rc, .string ⟨#[]⟩, .int .i64 0] 42 (0, 0)) := by
    rw [hw1, hS]; exact below_heap (below_alloc (Below.refl _ _) _) (heap_alloc_new _ _)
  have t0 : (id == 0) = false := by simpa using h0
  have cL := below_cell b1 hL
  have cx := below_cell b1 hx
  have c0 := cell_at g0 (i := 0) (v := .int .u8 4) rfl
  have c1 := cell_at g0 (i := 1) (v := .int .i64 0) rfl
  have c2 := cell_at g0 (i := 2) (v := .slice ra rn rc) rfl
  have HH := hid HP
  have W1 := hid (And.intro (show S1 = w.heap.size + 1 by omega) (And.intro hS hw1))
  have G1 := hid (And.intro g1 (And.intro b1 (And.intro ht hZ)))
  unfold okV
  clear HP g1 b1 g0 hw1 hS hS1 hL hx h0 ht hZ
  go_enter Tryz.func40, Tryz.ntmps40
  go_upto_region 1 with fail
  rw [← W1.out.1, ← W1.out.2.1, ← W1.out.2.2]
  go_upto_region 11 with fail
  refine start_ (n := 15) (S := fun w' => w'.cell? ⟨E, 0, none⟩ = some (.pointer (some ⟨L, 0, none⟩)) ∧ w'.cell? ⟨E, off, none⟩ = some (.int .i64 id) ∧ w'.cell? ⟨S, 1, none⟩ = some (.int .i64 0) ∧ w'.cell? ⟨S, 2, none⟩ = some (.slice ra rn rc) ∧ Below w1.heap.size w1 w') (ds := [12, 14]) (tf 15 0) (by kernel_rfl) rfl rfl ⟨cL, cx, c1, c2, (Below.refl w1.heap.size w1).drew⟩ (fun hHeld => ?_); refine pure_ (i := 0) (N := some 66) (v := ?_) (a' := ?_) (tf 15 1) rfl rfl (by kernel_rfl) (fun _ _ _ h => h) (Or.inl ⟨by rfl, ?_⟩) ?_ ?_; rotate_left; (· intro w'; go_simp; (with_reducible rfl)); rotate_left; (· simp only [pn_]; rfl); refine pure_ (i := 1) (N := some 67) (v := ?_) (a' := ?_) (tf 15 3) rfl rfl (by kernel_rfl) (fun _ _ _ h => h) (Or.inl ⟨by rfl, ?_⟩) ?_ ?_; rotate_left; (· intro w'; go_simp; (with_reducible rfl)); rotate_left; (· simp only [pn_]; rfl); refine pure_ (i := 2) (N := some 68) (v := ?_) (a' := ?_) (tf 15 7) rfl rfl (by kernel_rfl) (fun _ _ _ h => h) (Or.inl ⟨by rfl, ?_⟩) ?_ ?_; rotate_left; (· intro w'; go_simp; (with_reducible rfl)); rotate_left; (· simp only [pn_]; rfl); refine pure_ (i := 4) (N := some 70) (v := ?_) (a' := ?_) (tf 15 23) rfl rfl (by kernel_rfl) (fun _ _ _ h => h) (Or.inl ⟨by rfl, ?_⟩) ?_ ?_; rotate_left; (· intro w'; go_simp; (with_reducible rfl)); rotate_left; (· simp only [pn_]; rfl); refine pure_ (i := 5) (N := some 71) (v := ?_) (a' := ?_) (tf 15 55) rfl rfl (by kernel_rfl) (fun _ _ _ h => h) (Or.inl ⟨by rfl, ?_⟩) ?_ ?_; rotate_left; (· intro w'; go_simp; (with_reducible rfl)); rotate_left; (· simp only [pn_]; rfl); refine pure_ (i := 6) (N := some 72) (v := ?_) (a' := ?_) (tf 15 119) rfl rfl (by kernel_rfl) (fun _ _ _ h => h) (Or.inl ⟨by rfl, ?_⟩) ?_ ?_; rotate_left; (· intro w'; go_simp; (with_reducible rfl)); rotate_left; (· simp only [pn_]; rfl); refine pure_ (i := 8) (N := some 74) (v := ?_) (a' := ?_) (tf 15 375) rfl rfl (by kernel_rfl) (fun _ _ _ h => h) (Or.inl ⟨by rfl, ?_⟩) ?_ ?_; rotate_left; (· intro w'; go_simp; (with_reducible rfl)); rotate_left; (· simp only [pn_]; rfl); refine pure_ (i := 10) (N := some 76) (v := ?_) (a' := ?_) (tf 15 1399) rfl rfl (by kernel_rfl) (fun _ _ _ h => h) (Or.inl ⟨by rfl, ?_⟩) ?_ ?_; rotate_left; (· intro w'; go_simp; (with_reducible rfl)); rotate_left; (· simp only [pn_]; rfl); refine take_ (i := 3) (N := some 69) (v := ?_) (a' := ?_) (tf 15 1407) rfl rfl (by kernel_rfl) (fun _ _ _ h => h) (Or.inl ⟨by rfl, ?_⟩) hHeld ?_ ?_; rotate_left; (· rintro w' ⟨s0, s1, s2, s3, s4⟩; go_simp; (with_reducible rfl)); rotate_left; (· simp only [pn_]; rfl); refine take_ (i := 7) (N := some 73) (v := ?_) (a' := ?_) (tf 15 1535) rfl rfl (by kernel_rfl) (fun _ _ _ h => h) (Or.inl ⟨by rfl, ?_⟩) hHeld ?_ ?_; rotate_left; (· rintro w' ⟨s0, s1, s2, s3, s4⟩; go_simp; (with_reducible rfl)); rotate_left; (· simp only [pn_]; rfl); refine take_ (i := 9) (N := some 75) (v := ?_) (a' := ?_) (tf 15 2047) rfl rfl (by kernel_rfl) (fun _ _ _ h => h) (Or.inl ⟨by rfl, ?_⟩) hHeld ?_ ?_; rotate_left; (· rintro w' ⟨s0, s1, s2, s3, s4⟩; go_simp; (with_reducible rfl)); rotate_left; (· simp only [pn_]; rfl); refine take_ (i := 11) (N := some 77) (v := ?_) (a' := ?_) (tf 15 4095) rfl rfl (by kernel_rfl) (fun _ _ _ h => h) (Or.inl ⟨by rfl, ?_⟩) hHeld ?_ ?_; rotate_left; (· rintro w' ⟨s0, s1, s2, s3, s4⟩; go_simp; (with_reducible rfl)); rotate_left; (· simp only [pn_]; rfl); refine last_ (i := 12) (N := some 78) (tf 15 8191) rfl rfl (by kernel_rfl) (by decide) (fun K hK => ?_); refine goes_ Tryz.func76 (by kernel_rfl) rfl #[.pointer (some ⟨L, 0, none⟩), .int .i64 id, .int .i64 0, .slice ra rn rc] (by rfl) rfl rfl (by simp only [List.map_toArray, List.map_cons, List.map_nil]; rfl) ?_; (with_reducible refine ((HH.out _ (below_then G1.out.2.1 hHeld.2.2.2.2))).mono ?_); rintro e w2 ⟨rfl, zb, kb⟩; refine ⟨_, rfl, ?_⟩; have b12 := hHeld.2.2.2.2; have h1 := kb.1.cells (below_heap b12 G1.out.1) ⟨G1.out.2.2.1, by decide⟩; have f0 := free_at h1 0; have d0 := cell_at h1 (i := 0) (v := .int .i64 0) rfl; refine hK.out _ _ ?_; clear hK K; refine norm_ (a' := ?_) ?_ ?_; rotate_left; (· show Act.put _ (some 78) _ = _; simp only [pn_]; rfl); refine pure_ (i := 13) (N := some 79) (v := ?_) (a' := ?_) (tf 15 16383) rfl rfl (by kernel_rfl) (fun _ _ _ h => h) (Or.inl ⟨by rfl, ?_⟩) ?_ ?_; rotate_left; (· intro w'; go_simp; (with_reducible rfl)); rotate_left; (· simp only [pn_]; rfl); refine last_ (i := 14) (N := none) (tf 15 32767) rfl rfl (by kernel_rfl) (by decide) (fun K hK => ?_); refine skip_ (w1 := ?_) (by rfl) rfl ?_ ?_; rotate_left; (· go_simp; rfl); refine hK.out _ _ ?_; clear hK K; refine done_ (by kernel_rfl) ?_
  obtain ⟨w3, hw3⟩ : ∃ y, y = w2.setCell ⟨S1, 0, none⟩ (.int .i64 0) := ⟨_, rfl⟩
  have gR : w3.heap[S1]? = some (.cells #[.int .i64 0, .bool false, .slice none 0 0, .slice none 0 0, .slice none 0 0] 38 (0, 0)) := by rw [hw3]; exact (heap_set h1).trans rfl
  have hs1 : w.heap.size ≤ S1 := by have := W1.out; omega
  have k3 : KB bs ts ms rs w w3 := by rw [hw3]; exact ((KB.of_below (below_then G1.out.2.1 b12)).trans kb).setNew (p := ⟨S1, 0, none⟩) hs1 _
  have kE : KT [38] [] [] w2 w3 := by rw [hw3]; exact (KT.refl _ _ _ _).set (p := ⟨S1, 0, none⟩) h1 (by simp) _
  rw [← hw3]
  have F4 := hid (And.intro k3 (And.intro hs1 (And.intro zb kE)))
  clear hw3 k3 kE hs1 h1 b12 f0 d0 cL cx c0 c1 c2 HH zb kb
  have q0 := cell_at gR (i := 0) rfl
  have q1 := cell_at gR (i := 1) rfl
  have q2 := cell_at gR (i := 2) rfl
  have q3 := cell_at gR (i := 3) rfl
  have q4 := cell_at gR (i := 4) rfl
  have f0 := free_at gR 0
  have f1 := free_at gR 1
  have f2 := free_at gR 2
  have f3 := free_at gR 3
  have f4 := free_at gR 4
  have GR := hid gR
  clear gR
  go_wp2
  obtain ⟨X4, hX4⟩ : ∃ y, y = set5 w3 S1 0 (.int .i64 0) (.bool false) (.slice none 0 0) (.slice none 0 0) (.slice none 0 0) := ⟨_, rfl⟩
  have g7 : X4.heap[S1]? = some (.cells #[.int .i64 0, .bool false, .slice none 0 0, .slice none 0 0, .slice none 0 0] 38 (0, 0)) := by rw [hX4]; exact set5_heap GR.out
  have kS : KT [38] [] [] w3 X4 := by rw [hX4]; exact (KT.refl _ _ _ _).set5 GR.out (by simp) _ _ _ _ _
  have FIN := hid (show ZB X4 ∧ KB bs ts ms rs w X4 from ⟨G1.out.2.2.2 _ _ F4.out.2.2.1 (F4.out.2.2.2.trans kS), by rw [hX4]; exact F4.out.1.set5New F4.out.2.1 _ _ _ _ _⟩)
  have G7 := hid g7
  have HX4 := hid (show (((((w3.setCell ⟨S1, 0, none⟩ (.int .i64 0)).setCell ⟨S1, 1, none⟩ (.bool false)).setCell ⟨S1, 2, none⟩ (.slice none 0 0)).setCell ⟨S1, 3, none⟩ (.slice none 0 0)).setCell ⟨S1, 4, none⟩ (.slice none 0 0)) = X4 from hX4.symm)
  clear hX4 g7 kS q0 q1 q2 q3 q4 f0 f1 f2 f3 f4
  rw [HX4.out]
  try simp only [Exit.inBlock, Exit.then]
  refine bodyPost_ret (ret_cell_one rfl rfl G7.out Tryz.underlying38 rfl infReply) rfl ?_
  exact ⟨rfl, FIN.out⟩
set_option maxRecDepth 100000 in
set_option maxHeartbeats 3200000 in
theorem begin_0 {w : World} {E L P : Nat} {a b : Cli} {hv : Value} {now id : Int} {bs : List Nat} {ts : List TypeId} {ms rs : List Nat} {ZB : World → Prop} (hE : w.heap[E]? = some (.cells (engS L P a b hv now) 64 (0, 0))) (hx : a.tx = 0)
    (HB : ∀ w1, Below w.heap.size w w1 → Calls Tryz.prog 72 #[.pointer (some ⟨L, 0, none⟩)] w1 fun e w' => e = .returned (.int .i64 id) ∧ ZB w' ∧ KB bs ts ms rs w1 w') (ht : 64 ∉ ts ∧ 38 ∉ ts) (hZ : ∀ w1 w2, ZB w1 → KT [64, 38] [] [] w1 w2 → ZB w2) :
    Calls Tryz.prog 39 #[.pointer (some ⟨E, 0, none⟩), .pointer (some ⟨E, 2, none⟩)] w fun e w' => e = .returned okV ∧ ZB w' ∧ w'.heap[E]? = some (.cells (engS L P ({ a with tx := id }) (b) hv now) 64 (0, 0)) ∧ KB (E :: bs) (64 :: ts) ms rs w w' := by
  obtain ⟨S, hS⟩ : ∃ S, S = w.heap.size := ⟨_, rfl⟩
  obtain ⟨w1, hw1⟩ : ∃ w1, w1 = w.alloc (.cells #[.int .i64 0, .bool false, .slice none 0 0, .slice none 0 0, .slice none 0 0] 38) := ⟨_, rfl⟩
  have b1 : Below w.heap.size w w1 := by rw [hw1]; exact below_alloc (Below.refl _ _) _
  have g1 : w1.heap[S]? = some (.cells #[.int .i64 0, .bool false, .slice none 0 0, .slice none 0 0, .slice none 0 0] 38 (0, 0)) := by rw [hw1, hS]; exact heap_alloc_new _ _
  have e1 := below_heap b1 hE
  have c0 := cell_at e1 (i := 0) (v := .pointer (some ⟨L, 0, none⟩)) rfl
  have cx := cell_at e1 (i := 2) (v := .int .i64 a.tx) rfl
  rw [hx] at cx
  have H := hid (HB w1 b1)
  have W1 := hid (And.intro hS hw1)
  have G1 := hid (And.intro e1 (And.intro g1 (And.intro b1 (And.intro ht (And.intro hZ hE)))))
  unfold okV
  clear HB e1 g1 b1 ht hZ hE hw1 hS hx
  go_enter Tryz.func39, Tryz.ntmps39
  go_upto_region 1 with fail
  rw [← W1.out.1, ← W1.out.2]
  go_wp2_with fail
  with_reducible refine H.out.mono ?_
  rintro e w2 ⟨rfl, zb, k2⟩
  have e2 := k2.1.cells G1.out.1 ⟨G1.out.2.2.2.1.1, by decide⟩
  have g2 := k2.1.cells G1.out.2.1 ⟨G1.out.2.2.2.1.2, by decide⟩
  have fx := free_at e2 2
  have dx := cell_at e2 (i := 2) (v := .int .i64 a.tx) rfl
  obtain ⟨w3, hw3⟩ : ∃ y, y = w2.setCell ⟨E, 2, none⟩ (.int .i64 id) := ⟨_, rfl⟩
  have kE : KT [64] [] [] w2 w3 := by rw [hw3]; exact (KT.refl _ _ _ _).set (p := ⟨E, 2, none⟩) e2 (by simp) _
  have e3 : w3.heap[E]? = some (.cells (engS L P ({ a with tx := id }) (b) hv now) 64 (0, 0)) := by rw [hw3]; exact (heap_set e2).trans rfl
  have gR := kE.cells g2 (by decide)
  have k3 : KB (E :: bs) (64 :: ts) ms rs w w3 := by
    rw [hw3]; exact (((KB.of_below (bs := E :: bs) (ts := 64 :: ts) (ms := ms) (rs := rs) G1.out.2.2.1).then k2 (by intro x hx _; simp [hx]) (by intro x hx; simp [hx]) (fun _ q _ => q) (fun _ q _ => q)).set (p := ⟨E, 2, none⟩) G1.out.2.2.2.2.2 (by simp) (by simp) _)
  have F3 := hid (And.intro e3 (And.intro k3 (And.intro zb kE)))
  have W3 := hid hw3
  clear hw3 e3 k3 zb kE e2 g2 k2 H c0 cx
  go_upto_region 4 with fail
  rw [← W3.out]
  clear fx dx
  have q0 := cell_at gR (i := 0) rfl
  have q1 := cell_at gR (i := 1) rfl
  have q2 := cell_at gR (i := 2) rfl
  have q3 := cell_at gR (i := 3) rfl
  have q4 := cell_at gR (i := 4) rfl
  have f0 := free_at gR 0
  have f1 := free_at gR 1
  have f2 := free_at gR 2
  have f3 := free_at gR 3
  have f4 := free_at gR 4
  have GR := hid gR
  clear gR
  go_wp2
  obtain ⟨X4, hX4⟩ : ∃ y, y = set5 w3 S 0 (.int .i64 0) (.bool false) (.slice none 0 0) (.slice none 0 0) (.slice none 0 0) := ⟨_, rfl⟩
  have g7 : X4.heap[S]? = some (.cells #[.int .i64 0, .bool false, .slice none 0 0, .slice none 0 0, .slice none 0 0] 38 (0, 0)) := by rw [hX4]; exact set5_heap GR.out
  have kS : KT [38] [] [] w3 X4 := by rw [hX4]; exact (KT.refl _ _ _ _).set5 GR.out (by simp) _ _ _ _ _
  have FIN := hid (show ZB X4 ∧ X4.heap[E]? = some (.cells (engS L P ({ a with tx := id }) (b) hv now) 64 (0, 0)) ∧ KB (E :: bs) (64 :: ts) ms rs w X4 from ⟨G1.out.2.2.2.2.1 _ _ F3.out.2.2.1 ((F3.out.2.2.2.mono (ts' := [64, 38]) (ms' := []) (rs' := []) (by simp) (by simp) (by simp)).then kS (by simp) (by simp) (by simp)), kS.cells F3.out.1 (by decide), by rw [hX4]; exact F3.out.2.1.set5New (by rw [← W1.out.1]; exact Nat.le_refl _) _ _ _ _ _⟩)
  have G7 := hid g7
  have HX4 := hid (show (((((w3.setCell ⟨S, 0, none⟩ (.int .i64 0)).setCell ⟨S, 1, none⟩ (.bool false)).setCell ⟨S, 2, none⟩ (.slice none 0 0)).setCell ⟨S, 3, none⟩ (.slice none 0 0)).setCell ⟨S, 4, none⟩ (.slice none 0 0)) = X4 from hX4.symm)
  clear hX4 g7 kS q0 q1 q2 q3 q4 f0 f1 f2 f3 f4
  rw [HX4.out]
  try simp only [Exit.inBlock, Exit.then]
  refine bodyPost_ret (ret_cell_one rfl rfl G7.out Tryz.underlying38 rfl infReply) rfl ?_
  exact ⟨rfl, FIN.out⟩
set_option maxRecDepth 100000 in
set_option maxHeartbeats 3200000 in
theorem begin_1 {w : World} {E L P : Nat} {a b : Cli} {hv : Value} {now id : Int} {bs : List Nat} {ts : List TypeId} {ms rs : List Nat} {ZB : World → Prop} (hE : w.heap[E]? = some (.cells (engS L P a b hv now) 64 (0, 0))) (hx : b.tx = 0)
    (HB : ∀ w1, Below w.heap.size w w1 → Calls Tryz.prog 72 #[.pointer (some ⟨L, 0, none⟩)] w1 fun e w' => e = .returned (.int .i64 id) ∧ ZB w' ∧ KB bs ts ms rs w1 w') (ht : 64 ∉ ts ∧ 38 ∉ ts) (hZ : ∀ w1 w2, ZB w1 → KT [64, 38] [] [] w1 w2 → ZB w2) :
    Calls Tryz.prog 39 #[.pointer (some ⟨E, 0, none⟩), .pointer (some ⟨E, 11, none⟩)] w fun e w' => e = .returned okV ∧ ZB w' ∧ w'.heap[E]? = some (.cells (engS L P (a) ({ b with tx := id }) hv now) 64 (0, 0)) ∧ KB (E :: bs) (64 :: ts) ms rs w w' := by
  obtain ⟨S, hS⟩ : ∃ S, S = w.heap.size := ⟨_, rfl⟩
  obtain ⟨w1, hw1⟩ : ∃ w1, w1 = w.alloc (.cells #[.int .i64 0, .bool false, .slice none 0 0, .slice none 0 0, .slice none 0 0] 38) := ⟨_, rfl⟩
  have b1 : Below w.heap.size w w1 := by rw [hw1]; exact below_alloc (Below.refl _ _) _
  have g1 : w1.heap[S]? = some (.cells #[.int .i64 0, .bool false, .slice none 0 0, .slice none 0 0, .slice none 0 0] 38 (0, 0)) := by rw [hw1, hS]; exact heap_alloc_new _ _
  have e1 := below_heap b1 hE
  have c0 := cell_at e1 (i := 0) (v := .pointer (some ⟨L, 0, none⟩)) rfl
  have cx := cell_at e1 (i := 11) (v := .int .i64 b.tx) rfl
  rw [hx] at cx
  have H := hid (HB w1 b1)
  have W1 := hid (And.intro hS hw1)
  have G1 := hid (And.intro e1 (And.intro g1 (And.intro b1 (And.intro ht (And.intro hZ hE)))))
  unfold okV
  clear HB e1 g1 b1 ht hZ hE hw1 hS hx
  go_enter Tryz.func39, Tryz.ntmps39
  go_upto_region 1 with fail
  rw [← W1.out.1, ← W1.out.2]
  go_wp2_with fail
  with_reducible refine H.out.mono ?_
  rintro e w2 ⟨rfl, zb, k2⟩
  have e2 := k2.1.cells G1.out.1 ⟨G1.out.2.2.2.1.1, by decide⟩
  have g2 := k2.1.cells G1.out.2.1 ⟨G1.out.2.2.2.1.2, by decide⟩
  have fx := free_at e2 11
  have dx := cell_at e2 (i := 11) (v := .int .i64 b.tx) rfl
  obtain ⟨w3, hw3⟩ : ∃ y, y = w2.setCell ⟨E, 11, none⟩ (.int .i64 id) := ⟨_, rfl⟩
  have kE : KT [64] [] [] w2 w3 := by rw [hw3]; exact (KT.refl _ _ _ _).set (p := ⟨E, 11, none⟩) e2 (by simp) _
  have e3 : w3.heap[E]? = some (.cells (engS L P (a) ({ b with tx := id }) hv now) 64 (0, 0)) := by rw [hw3]; exact (heap_set e2).trans rfl
  have gR := kE.cells g2 (by decide)
  have k3 : KB (E :: bs) (64 :: ts) ms rs w w3 := by
    rw [hw3]; exact (((KB.of_below (bs := E :: bs) (ts := 64 :: ts) (ms := ms) (rs := rs) G1.out.2.2.1).then k2 (by intro x hx _; simp [hx]) (by intro x hx; simp [hx]) (fun _ q _ => q) (fun _ q _ => q)).set (p := ⟨E, 11, none⟩) G1.out.2.2.2.2.2 (by simp) (by simp) _)
  have F3 := hid (And.intro e3 (And.intro k3 (And.intro zb kE)))
  have W3 := hid hw3
  clear hw3 e3 k3 zb kE e2 g2 k2 H c0 cx
  go_upto_region 4 with fail
  rw [← W3.out]
  clear fx dx
  have q0 := cell_at gR (i := 0) rfl
  have q1 := cell_at gR (i := 1) rfl
  have q2 := cell_at gR (i := 2) rfl
  have q3 := cell_at gR (i := 3) rfl
  have q4 := cell_at gR (i := 4) rfl
  have f0 := free_at gR 0
  have f1 := free_at gR 1
  have f2 := free_at gR 2
  have f3 := free_at gR 3
  have f4 := free_at gR 4
  have GR := hid gR
  clear gR
  go_wp2
  obtain ⟨X4, hX4⟩ : ∃ y, y = set5 w3 S 0 (.int .i64 0) (.bool false) (.slice none 0 0) (.slice none 0 0) (.slice none 0 0) := ⟨_, rfl⟩
  have g7 : X4.heap[S]? = some (.cells #[.int .i64 0, .bool false, .slice none 0 0, .slice none 0 0, .slice none 0 0] 38 (0, 0)) := by rw [hX4]; exact set5_heap GR.out
  have kS : KT [38] [] [] w3 X4 := by rw [hX4]; exact (KT.refl _ _ _ _).set5 GR.out (by simp) _ _ _ _ _
  have FIN := hid (show ZB X4 ∧ X4.heap[E]? = some (.cells (engS L P (a) ({ b with tx := id }) hv now) 64 (0, 0)) ∧ KB (E :: bs) (64 :: ts) ms rs w X4 from ⟨G1.out.2.2.2.2.1 _ _ F3.out.2.2.1 ((F3.out.2.2.2.mono (ts' := [64, 38]) (ms' := []) (rs' := []) (by simp) (by simp) (by simp)).then kS (by simp) (by simp) (by simp)), kS.cells F3.out.1 (by decide), by rw [hX4]; exact F3.out.2.1.set5New (by rw [← W1.out.1]; exact Nat.le_refl _) _ _ _ _ _⟩)
  have G7 := hid g7
  have HX4 := hid (show (((((w3.setCell ⟨S, 0, none⟩ (.int .i64 0)).setCell ⟨S, 1, none⟩ (.bool false)).setCell ⟨S, 2, none⟩ (.slice none 0 0)).setCell ⟨S, 3, none⟩ (.slice none 0 0)).setCell ⟨S, 4, none⟩ (.slice none 0 0)) = X4 from hX4.symm)
  clear hX4 g7 kS q0 q1 q2 q3 q4 f0 f1 f2 f3 f4
  rw [HX4.out]
  try simp only [Exit.inBlock, Exit.then]
  refine bodyPost_ret (ret_cell_one rfl rfl G7.out Tryz.underlying38 rfl infReply) rfl ?_
  exact ⟨rfl, FIN.out⟩
end Go.Proofs.YtnidgljkbmceaaaGreatDoor
