/- The chain and the reference's chain, both in memory and apart. -/
import Derived.Test.YtlfimleciemobabRef12G
set_option linter.unusedVariables false
set_option linter.unusedSimpArgs false
namespace Go.Proofs.Ytlfimleciemobab
open Go.RowKit PrintLast

/-- The chain at b, the reference's chain in the variable at mb; none of one's blocks is the other's. -/
def Trio (w : World) (B b mb : Nat) (vs : List Ver) (last : Int) (us : List Ver) (ml : Int) : Prop :=
  ∃ F G A c, ChainAt w F b vs last ∧ RdAt w G A c us ∧ w.heap[mb]? = some (.cells #[.slice A us.length c, .int .i64 ml] 38 (0, 0)) ∧ (∀ k, F k → B ≤ k) ∧ (∀ k, G k → ¬ F k ∧ k ≠ mb ∧ k < w.heap.size) ∧ B ≤ mb ∧ ¬ F mb
/-- Both have the same versions, the same greatest number. -/
def Both (w : World) (B b mb : Nat) (vs : List Ver) (last : Int) : Prop := Trio w B b mb vs last vs last

theorem Trio.below {w w' : World} {B b mb : Nat} {vs us : List Ver} {last ml : Int} (h : Trio w B b mb vs last us ml) (hb : Below w.heap.size w w') : Trio w' B b mb vs last us ml := by
  obtain ⟨F, G, A, c, h1, h2, h3, h4, h5, h6, h7⟩ := h
  have := hb.size
  exact ⟨F, G, A, c, h1.below hb, h2.below hb, below_heap hb h3, h4, fun k hk => ⟨(h5 k hk).1, (h5 k hk).2.1, by have := (h5 k hk).2.2; omega⟩, h6, h7⟩
theorem Both.below {w w' : World} {B b mb : Nat} {vs : List Ver} {last : Int} (h : Both w B b mb vs last) (hb : Below w.heap.size w w') : Both w' B b mb vs last := Trio.below h hb
theorem Trio.chain {w : World} {B b mb : Nat} {vs us : List Ver} {last ml : Int} (h : Trio w B b mb vs last us ml) : ChainB w B b vs last := by
  obtain ⟨F, G, A, c, h1, h2, h3, h4, h5, h6, h7⟩ := h
  exact ⟨F, h1, h4⟩
/-- What the reference's variable has. -/
theorem Trio.var {w : World} {B b mb : Nat} {vs us : List Ver} {last ml : Int} (h : Trio w B b mb vs last us ml) : ∃ G A c, RdAt w G A c us ∧ w.heap[mb]? = some (.cells #[.slice A us.length c, .int .i64 ml] 38 (0, 0)) := by
  obtain ⟨F, G, A, c, h1, h2, h3, _⟩ := h
  exact ⟨G, A, c, h2, h3⟩

/-- The world when an answer is stored: first into a variable of its own, then into the one at mb. -/
def stored (w : World) (mb : Nat) (A : Option Addr) (n c : Nat) (x : Int) : World :=
  ((w.alloc (.cells #[.slice A n c, .int .i64 x] 38)).setCell ⟨mb, 0, none⟩ (.slice A n c)).setCell ⟨mb, 1, none⟩ (.int .i64 x)

theorem stored_keeps {w : World} {mb : Nat} {A : Option Addr} {n c : Nat} {x : Int} : Keeps (fun k => k = mb) w (stored w mb A n c x) :=
  Keeps.setCell (p := ⟨mb, 1, none⟩) (Keeps.setCell (p := ⟨mb, 0, none⟩) ((Keeps.refl (fun k => k = mb) w).alloc _) (fun _ => rfl) _) (fun _ => rfl) _
theorem stored_at {w : World} {mb : Nat} {A : Option Addr} {n c : Nat} {x : Int} {v0 v1 : Value} (h : w.heap[mb]? = some (.cells #[v0, v1] 38 (0, 0))) :
    (stored w mb A n c x).heap[mb]? = some (.cells #[.slice A n c, .int .i64 x] 38 (0, 0)) := by
  have h1 : (w.alloc (.cells #[.slice A n c, .int .i64 x] 38)).heap[mb]? = some (.cells #[v0, v1] 38 (0, 0)) := below_heap (below_alloc (Below.refl _ w) _) h
  exact heap_set (i := 1) (heap_set (i := 0) h1)

theorem trio_store {w w4 : World} {B b mb : Nat} {F G : Nat → Prop} {vs us : List Ver} {last x : Int} {A : Option Addr} {n c : Nat} {v0 v1 : Value} (C : ChainAt w F b vs last) (m : w.heap[mb]? = some (.cells #[v0, v1] 38 (0, 0))) (hF : ∀ k, F k → B ≤ k) (hm : B ≤ mb) (hmF : ¬ F mb)
    (hB : B ≤ w.heap.size) (b4 : Below w.heap.size w w4) (R : RdAt w4 G A c us) (hG : ∀ k, G k → ¬ F k ∧ k ≠ mb ∧ k < w4.heap.size) (hn : n = us.length) :
    Trio (stored w4 mb A n c x) B b mb vs last us x ∧ Below B w (stored w4 mb A n c x) := by
  subst hn
  have hk := stored_keeps (w := w4) (mb := mb) (A := A) (n := us.length) (c := c) (x := x)
  have s4 := b4.size
  refine ⟨⟨F, G, A, c, (C.below b4).keeps hk (fun k hk e => hmF (e ▸ hk)), R.keeps hk (fun k h e => (hG k h).2.1 e), stored_at (below_heap b4 m), hF, fun k h => ⟨(hG k h).1, (hG k h).2.1, by have := (hG k h).2.2; have := hk.size; omega⟩, hm, hmF⟩, ?_⟩
  exact (b4.mono hB).trans ⟨hk.os, hk.tape, hk.output, hk.size, fun k hk' => hk.block k (by omega) (by omega)⟩

theorem Trio.step {w w' : World} {B b mb : Nat} {vs' us : List Ver} {last' ml : Int} {F G : Nat → Prop} {A : Option Addr} {c : Nat} (hB : B ≤ w.heap.size) (h2 : RdAt w G A c us) (h3 : w.heap[mb]? = some (.cells #[.slice A us.length c, .int .i64 ml] 38 (0, 0))) (h4 : ∀ k, F k → B ≤ k) (h5 : ∀ k, G k → ¬ F k ∧ k ≠ mb ∧ k < w.heap.size) (h6 : B ≤ mb) (h7 : ¬ F mb)
    (h : ∃ F', ChainAt w' F' b vs' last' ∧ (∀ k, F' k → F k ∨ w.heap.size ≤ k) ∧ Keeps F w w') : Trio w' B b mb vs' last' us ml ∧ Below B w w' := by
  obtain ⟨F', k1, k2, k3⟩ := h
  have hmb := lt_of_block h3
  have hs := k3.size
  refine ⟨⟨F', G, A, c, k1, h2.keeps k3 (fun k h => (h5 k h).1), k3.heap h3 h7, fun k h => ?_, fun k h => ⟨fun e => ?_, (h5 k h).2.1, by have := (h5 k h).2.2; omega⟩, h6, fun e => ?_⟩, ⟨k3.os, k3.tape, k3.output, k3.size, fun k hk => k3.block k (by omega) (fun e => by have := h4 k e; omega)⟩⟩
  · rcases k2 k h with e | e
    · exact h4 k e
    · omega
  · rcases k2 k e with e | e
    · exact (h5 k h).1 e
    · have := (h5 k h).2.2; omega
  · rcases k2 _ e with e | e
    · exact h7 e
    · omega

theorem tr_put {w : World} {B b mb : Nat} {vs us : List Ver} {last ml x : Int} {A : Option Addr} {c : Nat} {row : List UInt8} {g : Bool} (hB : B ≤ w.heap.size) (h : Trio w B b mb vs last us ml) (hx : last < x) (hrow : BSA w A c row) (hbig : row.length ≤ 140737488355328) (hn : vs.length < 1000000) :
    Calls Try.prog 12 #[.pointer (some ⟨b, 0, none⟩), .int .i64 x, .slice A row.length c, .bool g] w fun e w' => e = .returned (.int .i64 0) ∧ Trio w' B b mb (vs ++ [(⟨x, row, g⟩ : Ver)]) x us ml ∧ Below B w w' := by
  obtain ⟨F, G, A1, c1, h1, h2, h3, h4, h5, h6, h7⟩ := h
  exact (put_yes h1 hx hrow hbig hn).mono fun e w' ⟨he, hh⟩ => ⟨he, Trio.step hB h2 h3 h4 h5 h6 h7 hh⟩
theorem tr_trim {w : World} {B b mb : Nat} {vs us : List Ver} {last ml x : Int} (hB : B ≤ w.heap.size) (h : Trio w B b mb vs last us ml) (hg : Good vs last) :
    Calls Try.prog 15 #[.pointer (some ⟨b, 0, none⟩), .int .i64 x] w fun e w' => e = .returned (.int .i64 (trimN vs x : Int)) ∧ Trio w' B b mb (vs.drop (trimN vs x)) last us ml ∧ Below B w w' := by
  obtain ⟨F, G, A1, c1, h1, h2, h3, h4, h5, h6, h7⟩ := h
  exact (trim_any h1 hg.1 hg.2.2).mono fun e w' ⟨he, hh⟩ => ⟨he, Trio.step hB h2 h3 h4 h5 h6 h7 hh⟩

/-! ### The reference's calls, and the store of the answer -/
theorem tr_rput {w : World} {B b mb : Nat} {vs : List Ver} {last x : Int} {A2 : Option Addr} {c2 : Nat} {row : List UInt8} {g : Bool} {A1 : Option Addr} {c1 : Nat} (hB : B ≤ w.heap.size) (h : Both w B b mb vs last) (hv : w.heap[mb]? = some (.cells #[.slice A1 vs.length c1, .int .i64 last] 38 (0, 0))) (hx : last < x) (hrow : BSA w A2 c2 row) (hbig : row.length ≤ 140737488355328) (hn : vs.length < 1000000) :
    Calls Try.prog 16 #[.agg #[.slice A1 vs.length c1, .int .i64 last], .int .i64 x, .slice A2 row.length c2, .bool g] w fun e w' => ∃ A' c', e = .returned (.tuple #[.agg #[.slice A' (vs.length + 1) c', .int .i64 x], .int .i64 0]) ∧ Trio (stored w' mb A' (vs.length + 1) c' x) B b mb vs last (vs ++ [(⟨x, row, g⟩ : Ver)]) x ∧ Below B w (stored w' mb A' (vs.length + 1) c' x) ∧ Below w.heap.size w w' := by
  obtain ⟨F, G, A, c, h1, h2, h3, h4, h5, h6, h7⟩ := h
  have e : A1 = A ∧ c1 = c := by rw [hv] at h3; simpa using h3
  obtain ⟨rfl, rfl⟩ := e
  refine (rput_yes (g := g) h2 hx hrow hbig hn).mono fun e w' hh => ?_
  obtain ⟨A', c', he, hr, hb⟩ := hh
  have s := hb.size
  have l3 := lt_of_block h3
  have t := trio_store (n := vs.length + 1) (x := x) h1 h3 h4 h6 h7 hB hb hr (fun k hk => ?_) (by simp)
  · exact ⟨A', c', he, t.1, t.2, hb⟩
  · rcases hk with hk | hk
    · have := h5 k hk; exact ⟨this.1, this.2.1, by omega⟩
    · exact ⟨fun e => by have := h1.2.1 k e; omega, by omega, by omega⟩
theorem tr_rput_no {w : World} {B b mb : Nat} {vs : List Ver} {last x : Int} {A2 : Option Addr} {n2 c2 : Nat} {g : Bool} {A1 : Option Addr} {c1 : Nat} (hB : B ≤ w.heap.size) (h : Both w B b mb vs last) (hv : w.heap[mb]? = some (.cells #[.slice A1 vs.length c1, .int .i64 last] 38 (0, 0))) (hx : x ≤ last) :
    Calls Try.prog 16 #[.agg #[.slice A1 vs.length c1, .int .i64 last], .int .i64 x, .slice A2 n2 c2, .bool g] w fun e w' => e = .returned (.tuple #[.agg #[.slice A1 vs.length c1, .int .i64 last], .int .i64 1]) ∧ Both (stored w' mb A1 vs.length c1 last) B b mb vs last ∧ Below B w (stored w' mb A1 vs.length c1 last) ∧ Below w.heap.size w w' := by
  obtain ⟨F, G, A, c, h1, h2, h3, h4, h5, h6, h7⟩ := h
  have e : A1 = A ∧ c1 = c := by rw [hv] at h3; simpa using h3
  obtain ⟨rfl, rfl⟩ := e
  refine (rput_no hx).mono fun e w' hh => ?_
  obtain ⟨he, hb⟩ := hh
  have s := hb.size
  have t := trio_store (n := vs.length) (x := last) h1 h3 h4 h6 h7 hB hb (h2.below hb) (fun k hk => ⟨(h5 k hk).1, (h5 k hk).2.1, by have := (h5 k hk).2.2; omega⟩) rfl
  exact ⟨he, t.1, t.2, hb⟩
theorem tr_rtrim {w : World} {B b mb : Nat} {vs : List Ver} {last x : Int} {A1 : Option Addr} {c1 : Nat} (hB : B ≤ w.heap.size) (h : Both w B b mb vs last) (hv : w.heap[mb]? = some (.cells #[.slice A1 vs.length c1, .int .i64 last] 38 (0, 0))) (hg : Good vs last) :
    Calls Try.prog 17 #[.agg #[.slice A1 vs.length c1, .int .i64 last], .int .i64 x] w fun e w' => ∃ A' n' c', e = .returned (.tuple #[.agg #[.slice A' n' c', .int .i64 last], .int .i64 (trimN vs x : Int)]) ∧ Trio (stored w' mb A' n' c' last) B b mb vs last (vs.drop (trimN vs x)) last ∧ Below B w (stored w' mb A' n' c' last) ∧ Below w.heap.size w w' := by
  obtain ⟨F, G, A, c, h1, h2, h3, h4, h5, h6, h7⟩ := h
  have e : A1 = A ∧ c1 = c := by rw [hv] at h3; simpa using h3
  obtain ⟨rfl, rfl⟩ := e
  refine (rtrim_any h2 hg.1).mono fun e w' hh => ?_
  obtain ⟨A', c', he, hr, hb⟩ := hh
  have s := hb.size
  have t := trio_store (n := (vs.drop (trimN vs x)).length) (x := last) h1 h3 h4 h6 h7 hB hb hr (fun k hk => ⟨(h5 k hk).1, (h5 k hk).2.1, by have := (h5 k hk).2.2; omega⟩) rfl
  exact ⟨A', _, c', he, t.1, t.2, hb⟩
theorem tr_rget {w : World} {B b mb : Nat} {vs : List Ver} {last x : Int} {A1 : Option Addr} {c1 : Nat} (h : Both w B b mb vs last) (hv : w.heap[mb]? = some (.cells #[.slice A1 vs.length c1, .int .i64 last] 38 (0, 0))) (hg : Good vs last) :
    Calls Try.prog 18 #[.agg #[.slice A1 vs.length c1, .int .i64 last], .int .i64 x] w fun e w' => ∃ R d, e = .returned (.tuple #[.slice R (got vs x).1.length d, .bool (got vs x).2]) ∧ BSA w' R d (got vs x).1 ∧ Below w.heap.size w w' := by
  obtain ⟨F, G, A, c, h1, h2, h3, h4, h5, h6, h7⟩ := h
  have e : A1 = A ∧ c1 = c := by rw [hv] at h3; simpa using h3
  obtain ⟨rfl, rfl⟩ := e
  exact (rget_any h2 hg.1).mono fun e w' ⟨R, d, he, h1, _, h2⟩ => ⟨R, d, he, h1, h2⟩
end Go.Proofs.Ytlfimleciemobab
