/- TopSkew's walks: the engine wakes. (printed by gen_wake.py) -/
import Derived.Test.YtnidgljkbmceaaaGreatDoorPn
import Derived.Test.YtnidgljkbmceaaaGreatDoorG24
set_option linter.unusedVariables false
set_option linter.unusedSimpArgs false
namespace Go.Proofs.YtnidgljkbmceaaaGreatDoor
open Go.RowKit PrintLast Go.Maps Go.MapKept
def wokeC : Cli := ⟨0, 0, false, 0, true⟩
def set9 (w : World) (E o : Nat) (a b c d e f g h i : Value) : World := ((((((((w.setCell ⟨E, o, none⟩ a).setCell ⟨E, o + 1, none⟩ b).setCell ⟨E, o + 2, none⟩ c).setCell ⟨E, o + 3, none⟩ d).setCell ⟨E, o + 4, none⟩ e).setCell ⟨E, o + 5, none⟩ f).setCell ⟨E, o + 6, none⟩ g).setCell ⟨E, o + 7, none⟩ h).setCell ⟨E, o + 8, none⟩ i
theorem KB.set9 {bs : List Nat} {ts : List TypeId} {ms rs : List Nat} {a w : World} (h : KB bs ts ms rs a w) {S o : Nat} {cs : Array Value} {t : TypeId} {fr : Nat × Nat} (hb : a.heap[S]? = some (.cells cs t fr)) (ht : t ∈ ts) (hm : S ∈ bs) (x y z u v p q r s : Value) : KB bs ts ms rs a (set9 w S o x y z u v p q r s) :=
  ((((((((h.set (p := ⟨S, o, none⟩) hb ht hm _).set (p := ⟨S, o + 1, none⟩) hb ht hm _).set (p := ⟨S, o + 2, none⟩) hb ht hm _).set (p := ⟨S, o + 3, none⟩) hb ht hm _).set (p := ⟨S, o + 4, none⟩) hb ht hm _).set (p := ⟨S, o + 5, none⟩) hb ht hm _).set (p := ⟨S, o + 6, none⟩) hb ht hm _).set (p := ⟨S, o + 7, none⟩) hb ht hm _).set (p := ⟨S, o + 8, none⟩) hb ht hm _
theorem KT.set9 {ts : List TypeId} {ms rs : List Nat} {a w : World} (h : KT ts ms rs a w) {S o : Nat} {cs : Array Value} {t : TypeId} {fr : Nat × Nat} (hb : a.heap[S]? = some (.cells cs t fr)) (ht : t ∈ ts) (x y z u v p q r s : Value) : KT ts ms rs a (set9 w S o x y z u v p q r s) :=
  ((((((((h.set (p := ⟨S, o, none⟩) hb ht _).set (p := ⟨S, o + 1, none⟩) hb ht _).set (p := ⟨S, o + 2, none⟩) hb ht _).set (p := ⟨S, o + 3, none⟩) hb ht _).set (p := ⟨S, o + 4, none⟩) hb ht _).set (p := ⟨S, o + 5, none⟩) hb ht _).set (p := ⟨S, o + 6, none⟩) hb ht _).set (p := ⟨S, o + 7, none⟩) hb ht _).set (p := ⟨S, o + 8, none⟩) hb ht _
theorem HistK.set5 {w : World} {hv : Value} {n k o : Nat} (h : HistK w hv n) (hk : hv.ownBlock = some k) (x y z u v : Value) : HistK (set5 w k o x y z u v) hv n := ((((h.set hk).set hk).set hk).set hk).set hk
theorem HistK.cell {w : World} {g c n : Nat} (h : HistK w (.slice (some ⟨g, 0, none⟩) n c) n) {i : Nat} (hi : i < n * 15) : ∃ v, w.cell? ⟨g, i, none⟩ = some v := by
  by_cases h0 : n = 0
  · omega
  obtain ⟨g', c', e, -, -, q, -⟩ := h.open_ (by omega)
  cases e
  exact q i hi
theorem HistK.free {w : World} {g c n : Nat} (h : HistK w (.slice (some ⟨g, 0, none⟩) n c) n) (h0 : 0 < n) (i : Nat) : w.frozen? ⟨g, i, none⟩ = false := by
  obtain ⟨g', c', e, -, -, -, q, -⟩ := h.open_ h0
  cases e
  exact q i
theorem HistK.row {w : World} {g c n : Nat} (h : HistK w (.slice (some ⟨g, 0, none⟩) n c) n) (h0 : 0 < n) : ∃ cur, w.heap[g]? = some (.cells cur 81 (0, 0)) ∧ n * 15 ≤ cur.size := by
  obtain ⟨xs, hl, h⟩ := h
  rcases h with ⟨_, h1⟩ | ⟨g', cap, cur, e, hb, hh, h1, h2, h3, h4⟩
  · omega
  · cases e
    exact ⟨cur, hh, by rw [h3]; exact Nat.mul_le_mul_right 15 h1⟩
theorem wake_cells {wd we : World} {g o : Nat} {cur : Array Value} {ty : TypeId} {v0 v1 v2 v3 v4 u : Value} (hg : wd.heap[g]? = some (.cells cur ty (0, 0))) (hs : o + 14 < cur.size) (hwe : we = ((set5 wd g (o + 6) v0 v1 v2 v3 v4).setCell ⟨g, o + 13, none⟩ u).drew) :
    we.cell? ⟨g, o + 6, none⟩ = some v0 ∧ we.cell? ⟨g, o + 6 + 1, none⟩ = some v1 ∧ we.cell? ⟨g, o + 6 + 2, none⟩ = some v2 ∧ we.cell? ⟨g, o + 6 + 3, none⟩ = some v3 ∧ we.cell? ⟨g, o + 6 + 4, none⟩ = some v4 := by
  have e : ∀ a, we.cell? a = ((set5 wd g (o + 6) v0 v1 v2 v3 v4).setCell ⟨g, o + 13, none⟩ u).cell? a := fun a => by
    have e0 : ∀ (W : World) a, W.drew.cell? a = W.cell? a := fun _ _ => rfl
    rw [hwe, e0]
  have q := heap_set (i := o + 13) (v := u) (heap_set (i := o + 6 + 4) (v := v4) (heap_set (i := o + 6 + 3) (v := v3) (heap_set (i := o + 6 + 2) (v := v2) (heap_set (i := o + 6 + 1) (v := v1) (heap_set (i := o + 6) (v := v0) hg)))))
  have s0 : o + 6 < cur.size := by omega
  have s1 : o + 6 + 1 < cur.size := by omega
  have s2 : o + 6 + 2 < cur.size := by omega
  have s3 : o + 6 + 3 < cur.size := by omega
  have s4 : o + 6 + 4 < cur.size := by omega
  refine ⟨(e _).trans (cell_at q ?_), (e _).trans (cell_at q ?_), (e _).trans (cell_at q ?_), (e _).trans (cell_at q ?_), (e _).trans (cell_at q ?_)⟩ <;>
    simp [Array.getElem?_setIfInBounds, s0, s1, s2, s3, s4]
set_option maxRecDepth 100000 in
theorem set9_eng0 {w : World} {E L P : Nat} {a b : Cli} {hv : Value} {now : Int} (h : w.heap[E]? = some (.cells (engS L P a b hv now) 64 (0, 0))) : (set9 w E 2 (.int .i64 0) (.int .i64 0) (.bool false) (.int .i64 0) (.bool false) (.slice none 0 0) (.slice none 0 0) (.slice none 0 0) (.bool true)).heap[E]? = some (.cells (engS L P wokeC b hv now) 64 (0, 0)) := by
  unfold set9
  rw [heap_set (heap_set (heap_set (heap_set (heap_set (heap_set (heap_set (heap_set (heap_set h))))))))]
  unfold engS wokeC
  simp only [List.setIfInBounds_toArray, List.set_cons_zero, List.set_cons_succ]
set_option maxRecDepth 100000 in
set_option maxHeartbeats 6400000 in
theorem wake_0 {w : World} {E L P hn i : Nat} {a b : Cli} {hv : Value} {now id : Int} (hE : w.heap[E]? = some (.cells (engS L P a b hv now) 64 (0, 0))) (hw : a.waits = true) (hx : a.tx = id) (he : a.entry = (i : Int)) (hi : i < hn) (hH : HistK w hv hn) (hn9 : hn ≤ 100) (ho : b.waits = false ∨ b.tx ≠ id) :
    Calls Tryz.prog 46 #[.pointer (some ⟨E, 0, none⟩), .agg #[.int .i64 id, .int .i64 0]] w fun e w' => e = .returned (.tuple #[]) ∧ w'.heap[E]? = some (.cells (engS L P wokeC b hv now) 64 (0, 0)) ∧ HistK w' hv hn ∧ KB (E :: hv.ownBlock.toList) [64, 81] [] [] w w' := by
  obtain ⟨g, c, rfl, gc, c9, -, -, cur, hg⟩ := hH.open_ (by omega)
  obtain ⟨D, hD⟩ : ∃ x, x = w.heap.size := ⟨_, rfl⟩
  obtain ⟨w1, hw1⟩ : ∃ x, x = w.alloc (.cells #[.int .i64 id, .int .i64 0] 122) := ⟨_, rfl⟩
  have b1 : Below w.heap.size w w1 := by rw [hw1]; exact below_alloc (Below.refl _ _) _
  have d1 : w1.heap[D]? = some (.cells #[.int .i64 id, .int .i64 0] 122 (0, 0)) := by rw [hw1, hD]; exact heap_alloc_new _ _
  have HO : Hid (∀ (a2 b2 : Cli) (k : Nat), k ≠ 0 → (cliS a2 b k).waits = false ∨ (cliS a2 b k).tx ≠ id) := hid (fun a2 b2 k hk => by
    match k, hk with
    | 1, _ => exact ho
    | 0, hk => exact absurd rfl hk
    | k + 2, _ => exact Or.inl rfl)
  have HM := hid (And.intro hw (And.intro hx (And.intro he (And.intro hi (And.intro hn9 (And.intro gc c9))))))
  have HE := hid (And.intro hE (And.intro hg hH))
  have H0 : Hid (∃ a2 : Cli, w1.heap[E]? = some (.cells (engS L P a2 b (.slice (some ⟨g, 0, none⟩) hn c) now) 64 (0, 0)) ∧ HistK w1 (.slice (some ⟨g, 0, none⟩) hn c) hn ∧ w1.heap[D]? = some (.cells #[.int .i64 id, .int .i64 0] 122 (0, 0)) ∧ KB [E, g] [64, 81] [] [] w w1 ∧ (0 ≤ 0 → a2 = a) ∧ (0 < 0 → a2 = wokeC)) := hid ⟨a, below_heap b1 hE, hH.keeps (KT.of_below (ts := []) (ms := []) (rs := []) b1) (by decide), d1, KB.of_below b1, fun _ => rfl, fun h => absurd h (by omega)⟩
  have HW := hid hw1
  have HDD := hid hD
  clear hE hw hx he hi hH hn9 ho gc c9 hg b1 d1 hw1 hD
  go_enter Tryz.func46, Tryz.ntmps46
  go_wp2
  rw [← HDD.out, ← HW.out]
  clear HW
  go_loopw [7] (fun v wr => ∃ k : Nat, k ≤ 8 ∧ v = .int .i64 (k : Int) ∧ Hid (∃ a2 : Cli, wr.heap[E]? = some (.cells (engS L P a2 b (.slice (some ⟨g, 0, none⟩) hn c) now) 64 (0, 0)) ∧ HistK wr (.slice (some ⟨g, 0, none⟩) hn c) hn ∧ wr.heap[D]? = some (.cells #[.int .i64 id, .int .i64 0] 122 (0, 0)) ∧ KB [E, g] [64, 81] [] [] w wr ∧ (k ≤ 0 → a2 = a) ∧ (0 < k → a2 = wokeC))) (fun v _ => 8 - (intOf v).toNat)
  case atStart => exact ⟨0, by omega, rfl, H0⟩
  case round =>
    obtain ⟨k, hk, rfl, hh⟩ := hrel
    by_cases hlt : k < 8
    · have t1 : decide ((k : Int) < 8) = true := by simp; omega
      have wk : wrap64 ((k : Int) + 1) = (k : Int) + 1 := by unfold wrap64; omega
      have t3 : (0 : Int) ≤ (k : Int) ∧ (k : Int) < 8 := by omega
      by_cases hm : k = 0
      · subst hm
        obtain ⟨a2, e2, h2, d2, k2, f1, -⟩ := hh.out
        rw [f1 (Nat.le_refl _)] at e2
        clear hh f1 t1 wk t3 hk hlt
        rw [show ((0 : Nat) : Int) = 0 from rfl]
        have c0 := (cell_at e2 (i := 2) rfl).trans (by rw [HM.out.2.1] : some (Value.int .i64 a.tx) = some (.int .i64 id))
        have c1 := (cell_at e2 (i := 3) rfl).trans (by rw [HM.out.2.2.1] : some (Value.int .i64 a.entry) = some (.int .i64 (i : Int)))
        have c2 := (cell_at e2 (i := 4) rfl).trans (by rw [HM.out.1] : some (Value.bool a.waits) = some (.bool true))
        have c74 := cell_at e2 (i := 74) (v := .slice (some ⟨g, 0, none⟩) hn c) rfl
        have c75 := cell_at e2 (i := 75) (v := .int .i64 now) rfl
        have z0 := cell_at d2 (i := 0) (v := .int .i64 id) rfl
        have z1 := cell_at d2 (i := 1) (v := .int .i64 0) rfl
        have ti : ((i : Int) < (hn : Int)) = True := by have := HM.out.2.2.2.1; simp; omega
        have ti0 : ((0 : Int) ≤ (i : Int)) = True := by simp
        have E2 := hid (And.intro e2 (And.intro h2 (And.intro d2 k2)))
        clear e2 h2 d2 k2
        go_upto_region 5 with fail
        go_region
        go_wp2
        go_region
        obtain ⟨wd, hwd⟩ : ∃ x, x = wr.drew.drew := ⟨_, rfl⟩
        rw [← hwd]
        have e2 : wd.heap[E]? = some (.cells (engS L P a b (.slice (some ⟨g, 0, none⟩) hn c) now) 64 (0, 0)) := by rw [hwd]; exact E2.out.1
        have h2 : HistK wd (.slice (some ⟨g, 0, none⟩) hn c) hn := by rw [hwd]; exact E2.out.2.1
        have d2 : wd.heap[D]? = some (.cells #[.int .i64 id, .int .i64 0] 122 (0, 0)) := by rw [hwd]; exact E2.out.2.2.1
        have k2 : KB [E, g] [64, 81] [] [] w wd := by rw [hwd]; exact E2.out.2.2.2.drew.drew
        clear hwd E2 c0 c1 c2 c74 c75 z0 z1
        have c75 := cell_at e2 (i := 75) (v := .int .i64 now) rfl
        have z1 := cell_at d2 (i := 1) (v := .int .i64 0) rfl
        have hi := HM.out.2.2.2.1
        obtain ⟨v0, x0⟩ := h2.cell (i := i * 15 + 6) (by omega)
        obtain ⟨v1, x1⟩ := h2.cell (i := i * 15 + 6 + 1) (by omega)
        obtain ⟨v2, x2⟩ := h2.cell (i := i * 15 + 6 + 2) (by omega)
        obtain ⟨v3, x3⟩ := h2.cell (i := i * 15 + 6 + 3) (by omega)
        obtain ⟨v4, x4⟩ := h2.cell (i := i * 15 + 6 + 4) (by omega)
        obtain ⟨v5, x5⟩ := h2.cell (i := i * 15 + 13) (by omega)
        have y0 := h2.free (by omega) (i * 15 + 6)
        have y1 := h2.free (by omega) (i * 15 + 6 + 1)
        have y2 := h2.free (by omega) (i * 15 + 6 + 2)
        have y3 := h2.free (by omega) (i * 15 + 6 + 3)
        have y4 := h2.free (by omega) (i * 15 + 6 + 4)
        have y5 := h2.free (by omega) (i * 15 + 13)
        have E2 := hid (And.intro e2 (And.intro h2 (And.intro d2 k2)))
        clear e2 h2 d2 k2 hi
        go_upto_region 7 with fail
        refine start_ (n := 15) (S := fun w' => w'.cell? ⟨D, 1, none⟩ = some (.int .i64 0) ∧ w'.cell? ⟨E, 75, none⟩ = some (.int .i64 now)) (ds := [11, 14]) (tf 15 0) (by kernel_rfl) rfl rfl ⟨z1, c75⟩ (fun hHeld => ?_); refine pure_ (i := 0) (N := some 38) (v := ?_) (a' := ?_) (tf 15 1) rfl rfl (by kernel_rfl) (fun _ _ _ h => h) (Or.inl ⟨by rfl, ?_⟩) ?_ ?_; rotate_left; (· intro w'; go_simp; (with_reducible rfl)); rotate_left; (· simp only [pn_]; rfl); refine pure_ (i := 1) (N := some 39) (v := ?_) (a' := ?_) (tf 15 3) rfl rfl (by kernel_rfl) (fun _ _ _ h => h) (Or.inl ⟨by rfl, ?_⟩) ?_ ?_; rotate_left; (· intro w'; go_simp; (with_reducible rfl)); rotate_left; (· simp only [pn_]; rfl); refine pure_ (i := 2) (N := some 40) (v := ?_) (a' := ?_) (tf 15 7) rfl rfl (by kernel_rfl) (fun _ _ _ h => h) (Or.inl ⟨by rfl, ?_⟩) ?_ ?_; rotate_left; (· intro w'; go_simp; (with_reducible rfl)); rotate_left; (· simp only [pn_]; rfl); refine pure_ (i := 5) (N := some 43) (v := ?_) (a' := ?_) (tf 15 39) rfl rfl (by kernel_rfl) (fun _ _ _ h => h) (Or.inl ⟨by rfl, ?_⟩) ?_ ?_; rotate_left; (· intro w'; go_simp; (with_reducible rfl)); rotate_left; (· simp only [pn_]; rfl); refine pure_ (i := 6) (N := some 44) (v := ?_) (a' := ?_) (tf 15 103) rfl rfl (by kernel_rfl) (fun _ _ _ h => h) (Or.inl ⟨by rfl, ?_⟩) ?_ ?_; rotate_left; (· intro w'; go_simp; (with_reducible rfl)); rotate_left; (· simp only [pn_]; rfl); refine pure_ (i := 7) (N := some 45) (v := ?_) (a' := ?_) (tf 15 231) rfl rfl (by kernel_rfl) (fun _ _ _ h => h) (Or.inl ⟨by rfl, ?_⟩) ?_ ?_; rotate_left; (· intro w'; go_simp; (with_reducible rfl)); rotate_left; (· simp only [pn_]; rfl); refine take_ (i := 3) (N := some 41) (v := ?_) (a' := ?_) (tf 15 239) rfl rfl (by kernel_rfl) (fun _ _ _ h => h) (Or.inl ⟨by rfl, ?_⟩) hHeld ?_ ?_; rotate_left; (· rintro w' ⟨s0, s1⟩; go_simp; (with_reducible rfl)); rotate_left; (· simp only [pn_]; rfl); refine pure_ (i := 4) (N := some 42) (v := ?_) (a' := ?_) (tf 15 255) rfl rfl (by kernel_rfl) (fun _ _ _ h => h) (Or.inl ⟨by rfl, ?_⟩) ?_ ?_; rotate_left; (· intro w'; go_simp; (with_reducible rfl)); rotate_left; (· simp only [pn_]; rfl); refine take_ (i := 8) (N := some 46) (v := ?_) (a' := ?_) (tf 15 511) rfl rfl (by kernel_rfl) (fun _ _ _ h => h) (Or.inl ⟨by rfl, ?_⟩) hHeld ?_ ?_; rotate_left; (· rintro w' ⟨s0, s1⟩; go_simp; (with_reducible rfl)); rotate_left; (· simp only [pn_]; rfl); refine pure_ (i := 9) (N := some 47) (v := ?_) (a' := ?_) (tf 15 1023) rfl rfl (by kernel_rfl) (fun _ _ _ h => h) (Or.inl ⟨by rfl, ?_⟩) ?_ ?_; rotate_left; (· intro w'; go_simp; (with_reducible rfl)); rotate_left; (· simp only [pn_]; rfl); refine pure_ (i := 10) (N := some 48) (v := ?_) (a' := ?_) (tf 15 2047) rfl rfl (by kernel_rfl) (fun _ _ _ h => h) (Or.inl ⟨by rfl, ?_⟩) ?_ ?_; rotate_left; (· intro w'; go_simp; (with_reducible rfl)); rotate_left; (· simp only [pn_]; rfl); refine last_ (i := 11) (N := none) (tf 15 4095) rfl rfl (by kernel_rfl) (by decide) (fun K hK => ?_); refine skip_ (w1 := ?_) (by rfl) rfl ?_ ?_; rotate_left; (· go_simp; rfl); refine hK.out _ _ ?_; clear hK K; refine pure_ (i := 12) (N := some 49) (v := ?_) (a' := ?_) (tf 15 8191) rfl rfl (by kernel_rfl) (fun _ _ _ h => h) (Or.inl ⟨by rfl, ?_⟩) ?_ ?_; rotate_left; (· intro w'; go_simp; (with_reducible rfl)); rotate_left; (· simp only [pn_]; rfl); refine pure_ (i := 13) (N := some 50) (v := ?_) (a' := ?_) (tf 15 16383) rfl rfl (by kernel_rfl) (fun _ _ _ h => h) (Or.inl ⟨by rfl, ?_⟩) ?_ ?_; rotate_left; (· intro w'; go_simp; (with_reducible rfl)); rotate_left; (· simp only [pn_]; rfl); refine last_ (i := 14) (N := none) (tf 15 32767) rfl rfl (by kernel_rfl) (by decide) (fun K hK => ?_); refine skip_ (w1 := ?_) (by rfl) rfl ?_ ?_; rotate_left; (· go_simp; rfl); refine hK.out _ _ ?_; clear hK K; refine done_ (by kernel_rfl) ?_
        obtain ⟨we, hwe⟩ : ∃ x, x = ((set5 wd g (i * 15 + 6) (.int .i64 0) (.bool false) (.slice none 0 0) (.slice none 0 0) (.slice none 0 0)).setCell ⟨g, i * 15 + 13, none⟩ (.int .i64 now)).drew := ⟨_, rfl⟩
        have hi := HM.out.2.2.2.1
        obtain ⟨cur2, g2, l2⟩ := E2.out.2.1.row (by omega)
        obtain ⟨r0, r1, r2, r3, r4⟩ := wake_cells g2 (by omega) hwe
        have kd : KT [81] [] [] wd we := by rw [hwe]; exact (((KT.refl _ _ _ _).set5 g2 (by simp) _ _ _ _ _).set (p := ⟨g, i * 15 + 13, none⟩) g2 (by simp) _).drew
        have kw : KB [E, g] [64, 81] [] [] w we := by rw [hwe]; exact ((E2.out.2.2.2.set5 HE.out.2.1 (by simp) (by simp) _ _ _ _ _).set (p := ⟨g, i * 15 + 13, none⟩) HE.out.2.1 (by simp) (by simp) _).drew
        have h3 : HistK we (.slice (some ⟨g, 0, none⟩) hn c) hn := by rw [hwe]; exact ((E2.out.2.1.set5 rfl _ _ _ _ _).set rfl).keeps (KT.refl [] [] [] _).drew (by simp)
        have e3 := kd.cells E2.out.1 (by decide)
        have d3 := kd.cells E2.out.2.2.1 (by decide)
        have HWE := hid (show ((((((wd.setCell ⟨g, i * 15 + 6, none⟩ (.int .i64 0)).setCell ⟨g, i * 15 + 6 + 1, none⟩ (.bool false)).setCell ⟨g, i * 15 + 6 + 2, none⟩ (.slice none 0 0)).setCell ⟨g, i * 15 + 6 + 3, none⟩ (.slice none 0 0)).setCell ⟨g, i * 15 + 6 + 4, none⟩ (.slice none 0 0)).setCell ⟨g, i * 15 + 13, none⟩ (.int .i64 now)).drew = we from hwe.symm)
        rw [HWE.out]
        have p0 := cell_at e3 (i := 2) rfl
        have q0 := free_at e3 2
        have p1 := cell_at e3 (i := 3) rfl
        have q1 := free_at e3 3
        have p2 := cell_at e3 (i := 4) rfl
        have q2 := free_at e3 4
        have p3 := cell_at e3 (i := 5) rfl
        have q3 := free_at e3 5
        have p4 := cell_at e3 (i := 6) rfl
        have q4 := free_at e3 6
        have p5 := cell_at e3 (i := 7) rfl
        have q5 := free_at e3 7
        have p6 := cell_at e3 (i := 8) rfl
        have q6 := free_at e3 8
        have p7 := cell_at e3 (i := 9) rfl
        have q7 := free_at e3 9
        have p8 := cell_at e3 (i := 10) rfl
        have q8 := free_at e3 10
        have FN : Hid (∃ a2 : Cli, (set9 we E 2 (.int .i64 0) (.int .i64 0) (.bool false) (.int .i64 0) (.bool false) (.slice none 0 0) (.slice none 0 0) (.slice none 0 0) (.bool true)).heap[E]? = some (.cells (engS L P a2 b (.slice (some ⟨g, 0, none⟩) hn c) now) 64 (0, 0)) ∧ HistK (set9 we E 2 (.int .i64 0) (.int .i64 0) (.bool false) (.int .i64 0) (.bool false) (.slice none 0 0) (.slice none 0 0) (.slice none 0 0) (.bool true)) (.slice (some ⟨g, 0, none⟩) hn c) hn ∧ (set9 we E 2 (.int .i64 0) (.int .i64 0) (.bool false) (.int .i64 0) (.bool false) (.slice none 0 0) (.slice none 0 0) (.slice none 0 0) (.bool true)).heap[D]? = some (.cells #[.int .i64 id, .int .i64 0] 122 (0, 0)) ∧ KB [E, g] [64, 81] [] [] w (set9 we E 2 (.int .i64 0) (.int .i64 0) (.bool false) (.int .i64 0) (.bool false) (.slice none 0 0) (.slice none 0 0) (.slice none 0 0) (.bool true)) ∧ (0 + 1 ≤ 0 → a2 = a) ∧ (0 < 0 + 1 → a2 = wokeC)) := hid ⟨wokeC, set9_eng0 e3, h3.keeps ((KT.refl [64] [] [] we).set9 e3 (by simp) _ _ _ _ _ _ _ _ _) (by decide), ((KT.refl [64] [] [] we).set9 e3 (by simp) _ _ _ _ _ _ _ _ _).cells d3 (by decide), kw.set9 HE.out.1 (by simp) (by simp) _ _ _ _ _ _ _ _ _, fun h => absurd h (by omega), fun _ => rfl⟩
        clear hwe hi g2 l2 kd kw h3 e3 d3 x0 x1 x2 x3 x4 x5 y0 y1 y2 y3 y4 y5 z1 c75 E2 cur2
        go_wp2
        exact ⟨⟨1, by omega, rfl, FN⟩, by decide⟩
      · obtain ⟨a2, e2, h2, d2, k2, f1, f2⟩ := hh.out
        have q := HO.out a2 a2 k hm
        obtain ⟨y0, y1, y2⟩ := engS_get (L := L) (P := P) (a := a2) (b := b) (h := .slice (some ⟨g, 0, none⟩) hn c) (n := now) hlt
        have c0 := cell_at e2 y0
        have c2 := cell_at e2 y2
        have z0 := cell_at d2 (i := 0) rfl
        obtain ⟨tk, htk⟩ : ∃ x, x = (cliS a2 b k).tx := ⟨_, rfl⟩
        obtain ⟨wt, hwt⟩ : ∃ x, x = (cliS a2 b k).waits := ⟨_, rfl⟩
        rw [← htk] at c0 q
        rw [← hwt] at c2 q
        have FN : Hid (∃ a2 : Cli, wr.drew.heap[E]? = some (.cells (engS L P a2 b (.slice (some ⟨g, 0, none⟩) hn c) now) 64 (0, 0)) ∧ HistK wr.drew (.slice (some ⟨g, 0, none⟩) hn c) hn ∧ wr.drew.heap[D]? = some (.cells #[.int .i64 id, .int .i64 0] 122 (0, 0)) ∧ KB [E, g] [64, 81] [] [] w wr.drew ∧ (k + 1 ≤ 0 → a2 = a) ∧ (0 < k + 1 → a2 = wokeC)) := hid ⟨a2, e2, h2, d2, k2.drew, fun h => f1 (by omega), fun h => f2 (by omega)⟩
        have KL := hid hlt
        clear hh e2 h2 d2 k2 f1 f2 y0 y1 y2 htk hwt hk hm hlt
        cases wt with
        | false =>
          clear q c0
          go_upto_region 5 with fail
          go_region
          go_wp2
          go_roundw
          case rel => exact ⟨k + 1, KL.out, by go_num, FN⟩
          case measure =>
            try rw [wk]
            have q := KL.out
            show 8 - ((k : Int) + 1).toNat < 8 - (k : Int).toNat
            clear wk t1
            omega
        | true =>
          have ne : tk ≠ id := by
            rcases q with q | q
            · cases q
            · exact q
          have n1 : (tk == id) = false := by simp [ne]
          have n2 : (tk != id) = true := by simp [ne]
          have n3 : decide (tk = id) = false := by simp [ne]
          clear q ne
          go_upto_region 5 with fail
          go_region
          go_wp2
          go_roundw
          case rel => exact ⟨k + 1, KL.out, by go_num, FN⟩
          case measure =>
            try rw [wk]
            have q := KL.out
            show 8 - ((k : Int) + 1).toNat < 8 - (k : Int).toNat
            clear wk t1
            omega
    · obtain rfl : k = 8 := by omega
      rw [show ((8 : Nat) : Int) = 8 from rfl]
      obtain ⟨a2, e2, h2, d2, k2, -, f2⟩ := hh.out
      rw [f2 (by omega)] at e2
      have FF := hid (And.intro e2 (And.intro h2 k2))
      clear hh e2 h2 d2 k2 f2
      go_wp2
      go_end0
      exact ⟨rfl, FF.out.1, FF.out.2.1, FF.out.2.2⟩
set_option maxRecDepth 100000 in
theorem set9_eng1 {w : World} {E L P : Nat} {a b : Cli} {hv : Value} {now : Int} (h : w.heap[E]? = some (.cells (engS L P a b hv now) 64 (0, 0))) : (set9 w E 11 (.int .i64 0) (.int .i64 0) (.bool false) (.int .i64 0) (.bool false) (.slice none 0 0) (.slice none 0 0) (.slice none 0 0) (.bool true)).heap[E]? = some (.cells (engS L P a wokeC hv now) 64 (0, 0)) := by
  unfold set9
  rw [heap_set (heap_set (heap_set (heap_set (heap_set (heap_set (heap_set (heap_set (heap_set h))))))))]
  unfold engS wokeC
  simp only [List.setIfInBounds_toArray, List.set_cons_zero, List.set_cons_succ]
set_option maxRecDepth 100000 in
set_option maxHeartbeats 6400000 in
theorem wake_1 {w : World} {E L P hn i : Nat} {a b : Cli} {hv : Value} {now id : Int} (hE : w.heap[E]? = some (.cells (engS L P a b hv now) 64 (0, 0))) (hw : b.waits = true) (hx : b.tx = id) (he : b.entry = (i : Int)) (hi : i < hn) (hH : HistK w hv hn) (hn9 : hn ≤ 100) (ho : a.waits = false ∨ a.tx ≠ id) :
    Calls Tryz.prog 46 #[.pointer (some ⟨E, 0, none⟩), .agg #[.int .i64 id, .int .i64 0]] w fun e w' => e = .returned (.tuple #[]) ∧ w'.heap[E]? = some (.cells (engS L P a wokeC hv now) 64 (0, 0)) ∧ HistK w' hv hn ∧ KB (E :: hv.ownBlock.toList) [64, 81] [] [] w w' := by
  obtain ⟨g, c, rfl, gc, c9, -, -, cur, hg⟩ := hH.open_ (by omega)
  obtain ⟨D, hD⟩ : ∃ x, x = w.heap.size := ⟨_, rfl⟩
  obtain ⟨w1, hw1⟩ : ∃ x, x = w.alloc (.cells #[.int .i64 id, .int .i64 0] 122) := ⟨_, rfl⟩
  have b1 : Below w.heap.size w w1 := by rw [hw1]; exact below_alloc (Below.refl _ _) _
  have d1 : w1.heap[D]? = some (.cells #[.int .i64 id, .int .i64 0] 122 (0, 0)) := by rw [hw1, hD]; exact heap_alloc_new _ _
  have HO : Hid (∀ (a2 b2 : Cli) (k : Nat), k ≠ 1 → (cliS a b2 k).waits = false ∨ (cliS a b2 k).tx ≠ id) := hid (fun a2 b2 k hk => by
    match k, hk with
    | 0, _ => exact ho
    | 1, hk => exact absurd rfl hk
    | k + 2, _ => exact Or.inl rfl)
  have HM := hid (And.intro hw (And.intro hx (And.intro he (And.intro hi (And.intro hn9 (And.intro gc c9))))))
  have HE := hid (And.intro hE (And.intro hg hH))
  have H0 : Hid (∃ b2 : Cli, w1.heap[E]? = some (.cells (engS L P a b2 (.slice (some ⟨g, 0, none⟩) hn c) now) 64 (0, 0)) ∧ HistK w1 (.slice (some ⟨g, 0, none⟩) hn c) hn ∧ w1.heap[D]? = some (.cells #[.int .i64 id, .int .i64 0] 122 (0, 0)) ∧ KB [E, g] [64, 81] [] [] w w1 ∧ (0 ≤ 1 → b2 = b) ∧ (1 < 0 → b2 = wokeC)) := hid ⟨b, below_heap b1 hE, hH.keeps (KT.of_below (ts := []) (ms := []) (rs := []) b1) (by decide), d1, KB.of_below b1, fun _ => rfl, fun h => absurd h (by omega)⟩
  have HW := hid hw1
  have HDD := hid hD
  clear hE hw hx he hi hH hn9 ho gc c9 hg b1 d1 hw1 hD
  go_enter Tryz.func46, Tryz.ntmps46
  go_wp2
  rw [← HDD.out, ← HW.out]
  clear HW
  go_loopw [7] (fun v wr => ∃ k : Nat, k ≤ 8 ∧ v = .int .i64 (k : Int) ∧ Hid (∃ b2 : Cli, wr.heap[E]? = some (.cells (engS L P a b2 (.slice (some ⟨g, 0, none⟩) hn c) now) 64 (0, 0)) ∧ HistK wr (.slice (some ⟨g, 0, none⟩) hn c) hn ∧ wr.heap[D]? = some (.cells #[.int .i64 id, .int .i64 0] 122 (0, 0)) ∧ KB [E, g] [64, 81] [] [] w wr ∧ (k ≤ 1 → b2 = b) ∧ (1 < k → b2 = wokeC))) (fun v _ => 8 - (intOf v).toNat)
  case atStart => exact ⟨0, by omega, rfl, H0⟩
  case round =>
    obtain ⟨k, hk, rfl, hh⟩ := hrel
    by_cases hlt : k < 8
    · have t1 : decide ((k : Int) < 8) = true := by simp; omega
      have wk : wrap64 ((k : Int) + 1) = (k : Int) + 1 := by unfold wrap64; omega
      have t3 : (0 : Int) ≤ (k : Int) ∧ (k : Int) < 8 := by omega
      by_cases hm : k = 1
      · subst hm
        obtain ⟨b2, e2, h2, d2, k2, f1, -⟩ := hh.out
        rw [f1 (Nat.le_refl _)] at e2
        clear hh f1 t1 wk t3 hk hlt
        rw [show ((1 : Nat) : Int) = 1 from rfl]
        have c0 := (cell_at e2 (i := 11) rfl).trans (by rw [HM.out.2.1] : some (Value.int .i64 b.tx) = some (.int .i64 id))
        have c1 := (cell_at e2 (i := 12) rfl).trans (by rw [HM.out.2.2.1] : some (Value.int .i64 b.entry) = some (.int .i64 (i : Int)))
        have c2 := (cell_at e2 (i := 13) rfl).trans (by rw [HM.out.1] : some (Value.bool b.waits) = some (.bool true))
        have c74 := cell_at e2 (i := 74) (v := .slice (some ⟨g, 0, none⟩) hn c) rfl
        have c75 := cell_at e2 (i := 75) (v := .int .i64 now) rfl
        have z0 := cell_at d2 (i := 0) (v := .int .i64 id) rfl
        have z1 := cell_at d2 (i := 1) (v := .int .i64 0) rfl
        have ti : ((i : Int) < (hn : Int)) = True := by have := HM.out.2.2.2.1; simp; omega
        have ti0 : ((0 : Int) ≤ (i : Int)) = True := by simp
        have E2 := hid (And.intro e2 (And.intro h2 (And.intro d2 k2)))
        clear e2 h2 d2 k2
        go_upto_region 5 with fail
        go_region
        go_wp2
        go_region
        obtain ⟨wd, hwd⟩ : ∃ x, x = wr.drew.drew := ⟨_, rfl⟩
        rw [← hwd]
        have e2 : wd.heap[E]? = some (.cells (engS L P a b (.slice (some ⟨g, 0, none⟩) hn c) now) 64 (0, 0)) := by rw [hwd]; exact E2.out.1
        have h2 : HistK wd (.slice (some ⟨g, 0, none⟩) hn c) hn := by rw [hwd]; exact E2.out.2.1
        have d2 : wd.heap[D]? = some (.cells #[.int .i64 id, .int .i64 0] 122 (0, 0)) := by rw [hwd]; exact E2.out.2.2.1
        have k2 : KB [E, g] [64, 81] [] [] w wd := by rw [hwd]; exact E2.out.2.2.2.drew.drew
        clear hwd E2 c0 c1 c2 c74 c75 z0 z1
        have c75 := cell_at e2 (i := 75) (v := .int .i64 now) rfl
        have z1 := cell_at d2 (i := 1) (v := .int .i64 0) rfl
        have hi := HM.out.2.2.2.1
        obtain ⟨v0, x0⟩ := h2.cell (i := i * 15 + 6) (by omega)
        obtain ⟨v1, x1⟩ := h2.cell (i := i * 15 + 6 + 1) (by omega)
        obtain ⟨v2, x2⟩ := h2.cell (i := i * 15 + 6 + 2) (by omega)
        obtain ⟨v3, x3⟩ := h2.cell (i := i * 15 + 6 + 3) (by omega)
        obtain ⟨v4, x4⟩ := h2.cell (i := i * 15 + 6 + 4) (by omega)
        obtain ⟨v5, x5⟩ := h2.cell (i := i * 15 + 13) (by omega)
        have y0 := h2.free (by omega) (i * 15 + 6)
        have y1 := h2.free (by omega) (i * 15 + 6 + 1)
        have y2 := h2.free (by omega) (i * 15 + 6 + 2)
        have y3 := h2.free (by omega) (i * 15 + 6 + 3)
        have y4 := h2.free (by omega) (i * 15 + 6 + 4)
        have y5 := h2.free (by omega) (i * 15 + 13)
        have E2 := hid (And.intro e2 (And.intro h2 (And.intro d2 k2)))
        clear e2 h2 d2 k2 hi
        go_upto_region 7 with fail
        refine start_ (n := 15) (S := fun w' => w'.cell? ⟨D, 1, none⟩ = some (.int .i64 0) ∧ w'.cell? ⟨E, 75, none⟩ = some (.int .i64 now)) (ds := [11, 14]) (tf 15 0) (by kernel_rfl) rfl rfl ⟨z1, c75⟩ (fun hHeld => ?_); refine pure_ (i := 0) (N := some 38) (v := ?_) (a' := ?_) (tf 15 1) rfl rfl (by kernel_rfl) (fun _ _ _ h => h) (Or.inl ⟨by rfl, ?_⟩) ?_ ?_; rotate_left; (· intro w'; go_simp; (with_reducible rfl)); rotate_left; (· simp only [pn_]; rfl); refine pure_ (i := 1) (N := some 39) (v := ?_) (a' := ?_) (tf 15 3) rfl rfl (by kernel_rfl) (fun _ _ _ h => h) (Or.inl ⟨by rfl, ?_⟩) ?_ ?_; rotate_left; (· intro w'; go_simp; (with_reducible rfl)); rotate_left; (· simp only [pn_]; rfl); refine pure_ (i := 2) (N := some 40) (v := ?_) (a' := ?_) (tf 15 7) rfl rfl (by kernel_rfl) (fun _ _ _ h => h) (Or.inl ⟨by rfl, ?_⟩) ?_ ?_; rotate_left; (· intro w'; go_simp; (with_reducible rfl)); rotate_left; (· simp only [pn_]; rfl); refine pure_ (i := 5) (N := some 43) (v := ?_) (a' := ?_) (tf 15 39) rfl rfl (by kernel_rfl) (fun _ _ _ h => h) (Or.inl ⟨by rfl, ?_⟩) ?_ ?_; rotate_left; (· intro w'; go_simp; (with_reducible rfl)); rotate_left; (· simp only [pn_]; rfl); refine pure_ (i := 6) (N := some 44) (v := ?_) (a' := ?_) (tf 15 103) rfl rfl (by kernel_rfl) (fun _ _ _ h => h) (Or.inl ⟨by rfl, ?_⟩) ?_ ?_; rotate_left; (· intro w'; go_simp; (with_reducible rfl)); rotate_left; (· simp only [pn_]; rfl); refine pure_ (i := 7) (N := some 45) (v := ?_) (a' := ?_) (tf 15 231) rfl rfl (by kernel_rfl) (fun _ _ _ h => h) (Or.inl ⟨by rfl, ?_⟩) ?_ ?_; rotate_left; (· intro w'; go_simp; (with_reducible rfl)); rotate_left; (· simp only [pn_]; rfl); refine take_ (i := 3) (N := some 41) (v := ?_) (a' := ?_) (tf 15 239) rfl rfl (by kernel_rfl) (fun _ _ _ h => h) (Or.inl ⟨by rfl, ?_⟩) hHeld ?_ ?_; rotate_left; (· rintro w' ⟨s0, s1⟩; go_simp; (with_reducible rfl)); rotate_left; (· simp only [pn_]; rfl); refine pure_ (i := 4) (N := some 42) (v := ?_) (a' := ?_) (tf 15 255) rfl rfl (by kernel_rfl) (fun _ _ _ h => h) (Or.inl ⟨by rfl, ?_⟩) ?_ ?_; rotate_left; (· intro w'; go_simp; (with_reducible rfl)); rotate_left; (· simp only [pn_]; rfl); refine take_ (i := 8) (N := some 46) (v := ?_) (a' := ?_) (tf 15 511) rfl rfl (by kernel_rfl) (fun _ _ _ h => h) (Or.inl ⟨by rfl, ?_⟩) hHeld ?_ ?_; rotate_left; (· rintro w' ⟨s0, s1⟩; go_simp; (with_reducible rfl)); rotate_left; (· simp only [pn_]; rfl); refine pure_ (i := 9) (N := some 47) (v := ?_) (a' := ?_) (tf 15 1023) rfl rfl (by kernel_rfl) (fun _ _ _ h => h) (Or.inl ⟨by rfl, ?_⟩) ?_ ?_; rotate_left; (· intro w'; go_simp; (with_reducible rfl)); rotate_left; (· simp only [pn_]; rfl); refine pure_ (i := 10) (N := some 48) (v := ?_) (a' := ?_) (tf 15 2047) rfl rfl (by kernel_rfl) (fun _ _ _ h => h) (Or.inl ⟨by rfl, ?_⟩) ?_ ?_; rotate_left; (· intro w'; go_simp; (with_reducible rfl)); rotate_left; (· simp only [pn_]; rfl); refine last_ (i := 11) (N := none) (tf 15 4095) rfl rfl (by kernel_rfl) (by decide) (fun K hK => ?_); refine skip_ (w1 := ?_) (by rfl) rfl ?_ ?_; rotate_left; (· go_simp; rfl); refine hK.out _ _ ?_; clear hK K; refine pure_ (i := 12) (N := some 49) (v := ?_) (a' := ?_) (tf 15 8191) rfl rfl (by kernel_rfl) (fun _ _ _ h => h) (Or.inl ⟨by rfl, ?_⟩) ?_ ?_; rotate_left; (· intro w'; go_simp; (with_reducible rfl)); rotate_left; (· simp only [pn_]; rfl); refine pure_ (i := 13) (N := some 50) (v := ?_) (a' := ?_) (tf 15 16383) rfl rfl (by kernel_rfl) (fun _ _ _ h => h) (Or.inl ⟨by rfl, ?_⟩) ?_ ?_; rotate_left; (· intro w'; go_simp; (with_reducible rfl)); rotate_left; (· simp only [pn_]; rfl); refine last_ (i := 14) (N := none) (tf 15 32767) rfl rfl (by kernel_rfl) (by decide) (fun K hK => ?_); refine skip_ (w1 := ?_) (by rfl) rfl ?_ ?_; rotate_left; (· go_simp; rfl); refine hK.out _ _ ?_; clear hK K; refine done_ (by kernel_rfl) ?_
        obtain ⟨we, hwe⟩ : ∃ x, x = ((set5 wd g (i * 15 + 6) (.int .i64 0) (.bool false) (.slice none 0 0) (.slice none 0 0) (.slice none 0 0)).setCell ⟨g, i * 15 + 13, none⟩ (.int .i64 now)).drew := ⟨_, rfl⟩
        have hi := HM.out.2.2.2.1
        obtain ⟨cur2, g2, l2⟩ := E2.out.2.1.row (by omega)
        obtain ⟨r0, r1, r2, r3, r4⟩ := wake_cells g2 (by omega) hwe
        have kd : KT [81] [] [] wd we := by rw [hwe]; exact (((KT.refl _ _ _ _).set5 g2 (by simp) _ _ _ _ _).set (p := ⟨g, i * 15 + 13, none⟩) g2 (by simp) _).drew
        have kw : KB [E, g] [64, 81] [] [] w we := by rw [hwe]; exact ((E2.out.2.2.2.set5 HE.out.2.1 (by simp) (by simp) _ _ _ _ _).set (p := ⟨g, i * 15 + 13, none⟩) HE.out.2.1 (by simp) (by simp) _).drew
        have h3 : HistK we (.slice (some ⟨g, 0, none⟩) hn c) hn := by rw [hwe]; exact ((E2.out.2.1.set5 rfl _ _ _ _ _).set rfl).keeps (KT.refl [] [] [] _).drew (by simp)
        have e3 := kd.cells E2.out.1 (by decide)
        have d3 := kd.cells E2.out.2.2.1 (by decide)
        have HWE := hid (show ((((((wd.setCell ⟨g, i * 15 + 6, none⟩ (.int .i64 0)).setCell ⟨g, i * 15 + 6 + 1, none⟩ (.bool false)).setCell ⟨g, i * 15 + 6 + 2, none⟩ (.slice none 0 0)).setCell ⟨g, i * 15 + 6 + 3, none⟩ (.slice none 0 0)).setCell ⟨g, i * 15 + 6 + 4, none⟩ (.slice none 0 0)).setCell ⟨g, i * 15 + 13, none⟩ (.int .i64 now)).drew = we from hwe.symm)
        rw [HWE.out]
        have p0 := cell_at e3 (i := 11) rfl
        have q0 := free_at e3 11
        have p1 := cell_at e3 (i := 12) rfl
        have q1 := free_at e3 12
        have p2 := cell_at e3 (i := 13) rfl
        have q2 := free_at e3 13
        have p3 := cell_at e3 (i := 14) rfl
        have q3 := free_at e3 14
        have p4 := cell_at e3 (i := 15) rfl
        have q4 := free_at e3 15
        have p5 := cell_at e3 (i := 16) rfl
        have q5 := free_at e3 16
        have p6 := cell_at e3 (i := 17) rfl
        have q6 := free_at e3 17
        have p7 := cell_at e3 (i := 18) rfl
        have q7 := free_at e3 18
        have p8 := cell_at e3 (i := 19) rfl
        have q8 := free_at e3 19
        have FN : Hid (∃ b2 : Cli, (set9 we E 11 (.int .i64 0) (.int .i64 0) (.bool false) (.int .i64 0) (.bool false) (.slice none 0 0) (.slice none 0 0) (.slice none 0 0) (.bool true)).heap[E]? = some (.cells (engS L P a b2 (.slice (some ⟨g, 0, none⟩) hn c) now) 64 (0, 0)) ∧ HistK (set9 we E 11 (.int .i64 0) (.int .i64 0) (.bool false) (.int .i64 0) (.bool false) (.slice none 0 0) (.slice none 0 0) (.slice none 0 0) (.bool true)) (.slice (some ⟨g, 0, none⟩) hn c) hn ∧ (set9 we E 11 (.int .i64 0) (.int .i64 0) (.bool false) (.int .i64 0) (.bool false) (.slice none 0 0) (.slice none 0 0) (.slice none 0 0) (.bool true)).heap[D]? = some (.cells #[.int .i64 id, .int .i64 0] 122 (0, 0)) ∧ KB [E, g] [64, 81] [] [] w (set9 we E 11 (.int .i64 0) (.int .i64 0) (.bool false) (.int .i64 0) (.bool false) (.slice none 0 0) (.slice none 0 0) (.slice none 0 0) (.bool true)) ∧ (1 + 1 ≤ 1 → b2 = b) ∧ (1 < 1 + 1 → b2 = wokeC)) := hid ⟨wokeC, set9_eng1 e3, h3.keeps ((KT.refl [64] [] [] we).set9 e3 (by simp) _ _ _ _ _ _ _ _ _) (by decide), ((KT.refl [64] [] [] we).set9 e3 (by simp) _ _ _ _ _ _ _ _ _).cells d3 (by decide), kw.set9 HE.out.1 (by simp) (by simp) _ _ _ _ _ _ _ _ _, fun h => absurd h (by omega), fun _ => rfl⟩
        clear hwe hi g2 l2 kd kw h3 e3 d3 x0 x1 x2 x3 x4 x5 y0 y1 y2 y3 y4 y5 z1 c75 E2 cur2
        go_wp2
        exact ⟨⟨2, by omega, rfl, FN⟩, by decide⟩
      · obtain ⟨b2, e2, h2, d2, k2, f1, f2⟩ := hh.out
        have q := HO.out b2 b2 k hm
        obtain ⟨y0, y1, y2⟩ := engS_get (L := L) (P := P) (a := a) (b := b2) (h := .slice (some ⟨g, 0, none⟩) hn c) (n := now) hlt
        have c0 := cell_at e2 y0
        have c2 := cell_at e2 y2
        have z0 := cell_at d2 (i := 0) rfl
        obtain ⟨tk, htk⟩ : ∃ x, x = (cliS a b2 k).tx := ⟨_, rfl⟩
        obtain ⟨wt, hwt⟩ : ∃ x, x = (cliS a b2 k).waits := ⟨_, rfl⟩
        rw [← htk] at c0 q
        rw [← hwt] at c2 q
        have FN : Hid (∃ b2 : Cli, wr.drew.heap[E]? = some (.cells (engS L P a b2 (.slice (some ⟨g, 0, none⟩) hn c) now) 64 (0, 0)) ∧ HistK wr.drew (.slice (some ⟨g, 0, none⟩) hn c) hn ∧ wr.drew.heap[D]? = some (.cells #[.int .i64 id, .int .i64 0] 122 (0, 0)) ∧ KB [E, g] [64, 81] [] [] w wr.drew ∧ (k + 1 ≤ 1 → b2 = b) ∧ (1 < k + 1 → b2 = wokeC)) := hid ⟨b2, e2, h2, d2, k2.drew, fun h => f1 (by omega), fun h => f2 (by omega)⟩
        have KL := hid hlt
        clear hh e2 h2 d2 k2 f1 f2 y0 y1 y2 htk hwt hk hm hlt
        cases wt with
        | false =>
          clear q c0
          go_upto_region 5 with fail
          go_region
          go_wp2
          go_roundw
          case rel => exact ⟨k + 1, KL.out, by go_num, FN⟩
          case measure =>
            try rw [wk]
            have q := KL.out
            show 8 - ((k : Int) + 1).toNat < 8 - (k : Int).toNat
            clear wk t1
            omega
        | true =>
          have ne : tk ≠ id := by
            rcases q with q | q
            · cases q
            · exact q
          have n1 : (tk == id) = false := by simp [ne]
          have n2 : (tk != id) = true := by simp [ne]
          have n3 : decide (tk = id) = false := by simp [ne]
          clear q ne
          go_upto_region 5 with fail
          go_region
          go_wp2
          go_roundw
          case rel => exact ⟨k + 1, KL.out, by go_num, FN⟩
          case measure =>
            try rw [wk]
            have q := KL.out
            show 8 - ((k : Int) + 1).toNat < 8 - (k : Int).toNat
            clear wk t1
            omega
    · obtain rfl : k = 8 := by omega
      rw [show ((8 : Nat) : Int) = 8 from rfl]
      obtain ⟨a2, e2, h2, d2, k2, -, f2⟩ := hh.out
      rw [f2 (by omega)] at e2
      have FF := hid (And.intro e2 (And.intro h2 k2))
      clear hh e2 h2 d2 k2 f2
      go_wp2
      go_end0
      exact ⟨rfl, FF.out.1, FF.out.2.1, FF.out.2.2⟩
set_option maxRecDepth 100000 in
theorem points1_any {w : World} {K : Nat} {tx en x id : Int} {wt rp b : Bool} {ty : TypeId} (hK : w.heap[K]? = some (.cells #[.int .i64 id] ty (0, 0))) (hb : (wt && decide (tx = id)) = b) :
    Calls Tryz.prog 93 #[.agg #[.int .i64 tx, .int .i64 en, .bool wt, .int .i64 x, .bool false, .slice none 0 0, .slice none 0 0, .slice none 0 0, .bool rp], .pointer (some ⟨K, 0, none⟩)] w fun e w' => e = .returned (.bool b) ∧ Below w.heap.size w w' := by
  have b1 := below_alloc (Below.refl _ w) (.cells #[.int .i64 tx, .int .i64 en, .bool wt, .int .i64 x, .bool false, .slice none 0 0, .slice none 0 0, .slice none 0 0, .bool rp] 60)
  have d3 := cell_of_one (below_heap b1 hK)
  have B1 := hid b1
  clear hK b1
  go_enter Tryz.func93, Tryz.ntmps93
  cases wt with
  | false =>
    simp at hb
    subst hb
    go_wp2
    go_ret
    exact ⟨rfl, B1.out⟩
  | true =>
    by_cases h : tx = id
    · have q : b = true := by rw [← hb]; simp [h]
      subst q
      have q1 : (tx == id) = true := by simp [h]
      have q2 : decide (tx = id) = true := by simp [h]
      clear hb h
      go_wp2
      go_ret
      exact ⟨rfl, B1.out⟩
    · have q : b = false := by rw [← hb]; simp [h]
      subst q
      have q1 : (tx == id) = false := by simp [h]
      have q2 : decide (tx = id) = false := by simp [h]
      clear hb h
      go_wp2
      go_ret
      exact ⟨rfl, B1.out⟩
section
variable {w : World} {E L P K : Nat} {a b : Cli} {hv : Value} {now id : Int} {ty : TypeId}
set_option maxRecDepth 100000 in
theorem idx_0 (hE : w.heap[E]? = some (.cells (engS L P a b hv now) 64 (0, 0))) (hK : w.heap[K]? = some (.cells #[.int .i64 id] ty (0, 0))) (h1 : a.waits = true) (h2 : a.tx = id) :
    Calls Tryz.prog 92 #[.slice (some ⟨E, 2, none⟩) 8 8, .func (.func 93) #[] #[.pointer (some ⟨K, 0, none⟩)]] w fun e w' => e = .returned (.int .i64 0) ∧ Below w.heap.size w w' := by
  have r0 := cell_at hE (i := 2) rfl
  have r1 := cell_at hE (i := 3) rfl
  have r2 := cell_at hE (i := 4) rfl
  have r3 := cell_at hE (i := 5) rfl
  have r4 := cell_at hE (i := 6) rfl
  have r5 := cell_at hE (i := 7) rfl
  have r6 := cell_at hE (i := 8) rfl
  have r7 := cell_at hE (i := 9) rfl
  have r8 := cell_at hE (i := 10) rfl
  have H := hid (points1_any (tx := a.tx) (en := a.entry) (x := a.e) (wt := a.waits) (rp := a.replied) (b := true) hK (by simp [h1, h2]))
  clear hE hK h1 h2
  go_enter Tryz.func92, Tryz.ntmps92
  go_wp2
  refine wp_loop_rounds 1 ?_
  rw [rounds_succ]
  go_wp2_with fail
  refine H.out.mono ?_
  rintro e w1 ⟨rfl, b1⟩
  clear H
  go_wp2
  go_ret
  exact ⟨rfl, b1⟩
set_option maxRecDepth 100000 in
theorem idx_1 (hE : w.heap[E]? = some (.cells (engS L P a b hv now) 64 (0, 0))) (hK : w.heap[K]? = some (.cells #[.int .i64 id] ty (0, 0))) (h0 : a.waits = false ∨ a.tx ≠ id) (h1 : b.waits = true) (h2 : b.tx = id) :
    Calls Tryz.prog 92 #[.slice (some ⟨E, 2, none⟩) 8 8, .func (.func 93) #[] #[.pointer (some ⟨K, 0, none⟩)]] w fun e w' => e = .returned (.int .i64 1) ∧ Below w.heap.size w w' := by
  have r0 := cell_at hE (i := 2) rfl
  have r1 := cell_at hE (i := 3) rfl
  have r2 := cell_at hE (i := 4) rfl
  have r3 := cell_at hE (i := 5) rfl
  have r4 := cell_at hE (i := 6) rfl
  have r5 := cell_at hE (i := 7) rfl
  have r6 := cell_at hE (i := 8) rfl
  have r7 := cell_at hE (i := 9) rfl
  have r8 := cell_at hE (i := 10) rfl
  have H := hid (points1_any (tx := a.tx) (en := a.entry) (x := a.e) (wt := a.waits) (rp := a.replied) (b := false) hK (by rcases h0 with h0 | h0 <;> simp [h0]))
  have EE := hid (And.intro hE hK)
  have HH := hid (And.intro h1 h2)
  clear hE hK h0 h1 h2
  go_enter Tryz.func92, Tryz.ntmps92
  go_wp2
  refine wp_loop_rounds 2 ?_
  rw [rounds_succ]
  go_wp2_with fail
  refine H.out.mono ?_
  rintro e w1 ⟨rfl, b1⟩
  clear H r0 r1 r2 r3 r4 r5 r6 r7 r8
  have hE := below_heap b1 EE.out.1
  have r0 := cell_at hE (i := 11) rfl
  have r1 := cell_at hE (i := 12) rfl
  have r2 := cell_at hE (i := 13) rfl
  have r3 := cell_at hE (i := 14) rfl
  have r4 := cell_at hE (i := 15) rfl
  have r5 := cell_at hE (i := 16) rfl
  have r6 := cell_at hE (i := 17) rfl
  have r7 := cell_at hE (i := 18) rfl
  have r8 := cell_at hE (i := 19) rfl
  have H := hid (points1_any (tx := b.tx) (en := b.entry) (x := b.e) (wt := b.waits) (rp := b.replied) (b := true) (below_heap b1 EE.out.2) (by simp [HH.out.1, HH.out.2]))
  have B1 := hid b1
  clear hE b1
  go_wp2
  rw [rounds_succ]
  go_wp2_with fail
  refine H.out.mono ?_
  rintro e w2 ⟨rfl, b2⟩
  have FF := hid (below_then B1.out b2)
  clear H b2
  go_wp2
  go_ret
  exact ⟨rfl, FF.out⟩
end
set_option maxRecDepth 100000 in
set_option maxHeartbeats 6400000 in
theorem points_k {w : World} {E L P hn n I J ci cj : Nat} {a b : Cli} {hv : Value} {now : Int} {ids : Nat → Int} {cl en : Nat → Nat} (hn1 : 1 ≤ n ∧ n ≤ 2) (hE : w.heap[E]? = some (.cells (engS L P a b hv now) 64 (0, 0))) (hH : HistK w hv hn) (hn9 : hn ≤ 100)
    (hI : ∃ cs, w.heap[I]? = some (.cells cs 3 (0, 0)) ∧ ∀ j, j < n → cs[j]? = some (.int .i64 (ids j))) (hJ : ∃ cs, w.heap[J]? = some (.cells cs 24 (0, 0)) ∧ ∀ j, j < n → cs[j]? = some (.int .i64 0)) (hci : n ≤ ci ∧ ci ≤ 9223372036854775807 ∧ n ≤ cj ∧ cj ≤ 9223372036854775807)
    (hcl : ∀ j, j < n → cl j < 8 ∧ (cliS a b (cl j)).entry = (en j : Int) ∧ en j < hn)
    (HX : ∀ j, j < n → ∀ w1 K, w1.heap[E]? = some (.cells (engS L P a b hv now) 64 (0, 0)) → w1.heap[K]? = some (.cells #[.int .i64 (ids j)] 3 (0, 0)) → Calls Tryz.prog 92 #[.slice (some ⟨E, 2, none⟩) 8 8, .func (.func 93) #[] #[.pointer (some ⟨K, 0, none⟩)]] w1 fun e w' => e = .returned (.int .i64 (cl j : Int)) ∧ Below w1.heap.size w1 w') :
    Calls Tryz.prog 47 #[.pointer (some ⟨E, 0, none⟩), .slice (some ⟨I, 0, none⟩) n ci, .slice (some ⟨J, 0, none⟩) n cj] w fun e w' => e = .returned (.tuple #[]) ∧ HistK w' hv hn ∧ KB hv.ownBlock.toList [81] [] [] w w' := by
  obtain ⟨g, c, rfl, gc, c9, -, -, cur, hg⟩ := hH.open_ (by have := (hcl 0 (by omega)).2.2; omega)
  obtain ⟨csI, hI, cI⟩ := hI
  obtain ⟨csJ, hJ, cJ⟩ := hJ
  have FX := hid (And.intro hE (And.intro hI (And.intro cI (And.intro hJ (And.intro cJ (And.intro hcl HX))))))
  have H0 := hid (show KB [g] [81] [] [] w w ∧ HistK w (.slice (some ⟨g, 0, none⟩) hn c) hn from ⟨KB.refl _ _ _ _ _, hH⟩)
  have HG := hid hg
  have HM := hid (And.intro hn1 (And.intro hn9 (And.intro gc c9)))
  clear hE hI cI hJ cJ hcl HX hH hg hn1 hn9 gc c9
  go_enter Tryz.func47, Tryz.ntmps47
  go_wp2
  go_loopw [12] (fun v wr => ∃ k : Nat, k ≤ n ∧ v = .int .i64 (k : Int) ∧ Hid (KB [g] [81] [] [] w wr ∧ HistK wr (.slice (some ⟨g, 0, none⟩) hn c) hn)) (fun v _ => n - (intOf v).toNat)
  case atStart => exact ⟨0, by omega, rfl, H0⟩
  case round =>
    clear H0
    obtain ⟨k, hk, rfl, hh⟩ := hrel
    by_cases hlt : k < n
    · have t1 : decide ((k : Int) < (n : Int)) = true := by simp; omega
      obtain ⟨hE, hI, cI, hJ, cJ, hcl, HX⟩ := FX.out
      obtain ⟨kk, hH⟩ := hh.out
      have hE1 := kk.1.cells hE (by decide)
      have hI1 := kk.1.cells hI (by decide)
      have hJ1 := kk.1.cells hJ (by decide)
      have q0 := cell_at hI1 (cI k hlt)
      obtain ⟨x, hx⟩ : ∃ x, x = ids k := ⟨_, rfl⟩
      rw [← hx] at q0
      obtain ⟨K, hK⟩ : ∃ x, x = wr.heap.size := ⟨_, rfl⟩
      obtain ⟨w1, hw1⟩ : ∃ y, y = wr.alloc (.cells #[.int .i64 x] 3) := ⟨_, rfl⟩
      have b1 : Below wr.heap.size wr w1 := by rw [hw1]; exact below_alloc (Below.refl _ _) _
      have g1 : w1.heap[K]? = some (.cells #[.int .i64 x] 3 (0, 0)) := by rw [hw1, hK]; exact heap_alloc_new _ _
      have HF := hid (HX k hlt w1 K (below_heap b1 hE1) (by rw [← hx]; exact g1))
      have CL := hid (hcl k hlt)
      have k1 := hid (And.intro (kk.below b1) (And.intro (hH.keeps (KT.of_below (ts := []) (ms := []) (rs := []) b1) (by decide)) (And.intro (below_heap b1 hE1) (And.intro (below_heap b1 hJ1) (cJ k hlt)))))
      have W1 := hid hw1
      have WK := hid hK
      have KL := hid hlt
      obtain ⟨cn, hcn⟩ : ∃ y, y = cl k := ⟨_, rfl⟩
      rw [← hcn] at HF CL
      clear hE hI cI hJ cJ hcl HX kk hH hE1 hI1 hJ1 b1 g1 hw1 hK hx hh hcn hlt hk
      have t3 := KL.out
      go_upto_region 3 with fail
      rw [← W1.out, ← WK.out]
      go_wp2_with fail
      refine HF.out.mono ?_
      rintro e w2 ⟨rfl, b2⟩
      clear HF q0 W1 WK
      obtain ⟨kk, hH, hE1, hJ1, cJ⟩ := k1.out
      replace kk := kk.below b2
      replace hH := hH.keeps (KT.of_below (ts := []) (ms := []) (rs := []) b2) (by decide)
      replace hE1 := below_heap b2 hE1
      replace hJ1 := below_heap b2 hJ1
      clear k1 b2
      obtain ⟨l1, l2, l3⟩ := CL.out
      obtain ⟨i, hi⟩ : ∃ y, y = en k := ⟨_, rfl⟩
      rw [← hi] at l2 l3
      have tc : decide ((cn : Int) ≥ 0) = true := by simp
      have tc1 : ((cn : Int) < 8) = True := by simp; omega
      have tc2 : ((0 : Int) ≤ (cn : Int)) = True := by simp
      have ti : ((i : Int) < (hn : Int)) = True := by simp; omega
      have ti0 : ((0 : Int) ≤ (i : Int)) = True := by simp
      obtain ⟨-, y1, -⟩ := engS_get (L := L) (P := P) (a := a) (b := b) (h := .slice (some ⟨g, 0, none⟩) hn c) (n := now) l1
      rw [l2] at y1
      have c1 := cell_at hE1 y1
      have c74 := cell_at hE1 (i := 74) (v := .slice (some ⟨g, 0, none⟩) hn c) rfl
      have E2 := hid (And.intro hE1 (And.intro hH (And.intro hJ1 (And.intro cJ (And.intro kk l3)))))
      clear hE1 hH hJ1 cJ kk y1 l1 l2 l3 hi CL
      go_upto_region 5 with fail
      go_region
      obtain ⟨wd, hwd⟩ : ∃ x, x = w2.drew := ⟨_, rfl⟩
      rw [← hwd]
      obtain ⟨hE1, hH, hJ1, cJ, kk, l3⟩ := E2.out
      have kz : KT [] [] [] w2 wd := by rw [hwd]; exact (KT.refl _ _ _ _).drew
      replace hE1 := kz.cells hE1 (by decide)
      replace hH := hH.keeps kz (by decide)
      replace hJ1 := kz.cells hJ1 (by decide)
      replace kk : KB [g] [81] [] [] w wd := by rw [hwd]; exact kk.drew
      clear E2 hwd kz c1 c74 tc tc1 tc2 ti ti0
      have c75 := cell_at hE1 (i := 75) (v := .int .i64 now) rfl
      obtain ⟨v0, x0⟩ := hH.cell (i := i * 15 + 12) (by omega)
      obtain ⟨v1, x1⟩ := hH.cell (i := i * 15 + 14) (by omega)
      have y0 := hH.free (by omega) (i * 15 + 12)
      have y1 := hH.free (by omega) (i * 15 + 14)
      obtain ⟨we, hwe⟩ : ∃ x, x = (wd.setCell ⟨g, i * 15 + 12, none⟩ (.int .i64 now)).setCell ⟨g, i * 15 + 14, none⟩ (.int .i64 (k : Int)) := ⟨_, rfl⟩
      obtain ⟨cur2, g2, -⟩ := hH.row (by omega)
      have kd : KT [81] [] [] wd we := by rw [hwe]; exact ((KT.refl _ _ _ _).set (p := ⟨g, i * 15 + 12, none⟩) g2 (by simp) _).set (p := ⟨g, i * 15 + 14, none⟩) g2 (by simp) _
      have ke : KB [g] [81] [] [] w we := by rw [hwe]; exact (kk.set (p := ⟨g, i * 15 + 12, none⟩) HG.out (by simp) (by simp) _).set (p := ⟨g, i * 15 + 14, none⟩) HG.out (by simp) (by simp) _
      have he : HistK we (.slice (some ⟨g, 0, none⟩) hn c) hn := by rw [hwe]; exact (hH.set rfl).set rfl
      have W2 := hid hwe
      have E2 := hid (And.intro he (And.intro (kd.cells hJ1 (by decide)) (And.intro cJ (And.intro ke l3))))
      clear hE1 hH hJ1 cJ kk l3 hwe g2 kd ke he
      go_upto_region 7 with fail
      rw [← W2.out]
      clear W2 x0 x1 y0 y1 c75
      obtain ⟨he, hJ1, cJ, ke, l3⟩ := E2.out
      have jJ := cell_at hJ1 cJ
      have t3 := KL.out
      obtain ⟨v0, x0⟩ := he.cell (i := i * 15 + 6) (by omega)
      obtain ⟨v1, x1⟩ := he.cell (i := i * 15 + 6 + 1) (by omega)
      obtain ⟨v2, x2⟩ := he.cell (i := i * 15 + 6 + 2) (by omega)
      obtain ⟨v3, x3⟩ := he.cell (i := i * 15 + 6 + 3) (by omega)
      obtain ⟨v4, x4⟩ := he.cell (i := i * 15 + 6 + 4) (by omega)
      have y0 := he.free (by omega) (i * 15 + 6)
      have y1 := he.free (by omega) (i * 15 + 6 + 1)
      have y2 := he.free (by omega) (i * 15 + 6 + 2)
      have y3 := he.free (by omega) (i * 15 + 6 + 3)
      have y4 := he.free (by omega) (i * 15 + 6 + 4)
      have FN := hid (show KB [g] [81] [] [] w (set5 we g (i * 15 + 6) (.int .i64 0) (.bool false) (.slice none 0 0) (.slice none 0 0) (.slice none 0 0)) ∧ HistK (set5 we g (i * 15 + 6) (.int .i64 0) (.bool false) (.slice none 0 0) (.slice none 0 0) (.slice none 0 0)) (.slice (some ⟨g, 0, none⟩) hn c) hn from ⟨ke.set5 HG.out (by simp) (by simp) _ _ _ _ _, he.set5 rfl _ _ _ _ _⟩)
      have wk : wrap64 ((k : Int) + 1) = (k : Int) + 1 := by have := HM.out.1; unfold wrap64; omega
      clear he hJ1 cJ ke l3 E2 t1
      go_wp2
      refine ⟨⟨k + 1, KL.out, by go_num, FN⟩, ?_⟩
      have q := KL.out
      show n - ((k : Int) + 1).toNat < n - (k : Int).toNat
      clear wk
      omega
    · obtain rfl : k = n := by omega
      have t1 : decide ((k : Int) < (k : Int)) = false := by simp
      obtain ⟨kk, hH⟩ := hh.out
      have FF := hid (And.intro hH kk)
      clear hh kk hH
      go_wp2
      go_end0
      exact ⟨rfl, FF.out.1, FF.out.2⟩
end Go.Proofs.YtnidgljkbmceaaaGreatDoor
