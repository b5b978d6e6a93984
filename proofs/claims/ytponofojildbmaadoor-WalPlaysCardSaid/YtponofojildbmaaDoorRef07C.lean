/- The walks of the reference's disk: Cut and Crash. -/
import Derived.Test.YtponofojildbmaaDoorRef07B
import Derived.Test.YtponofojildbmaaDoorShaE
set_option linter.unusedVariables false
set_option linter.unusedSimpArgs false
namespace Go.Proofs.YtponofojildbmaaDoor
open Go.RowKit PrintLast

/-- The first k bytes of what is read. -/

theorem ref_cut {w0 w1 w2 : World} {b : Nat} {r : Option Nat} {s : RS} {A' : Option Addr} {c' : Nat} {l : List UInt8} (hk : Keeps (fun k => k = b) w0 w1) (h1 : RefAt w1 b r s) (m : Made w1 w2 (.slice A' l.length c') l) :
    ∃ v, w2.heap[b]? = some (.cells (rcells v s.safe s.calls) 51 (0, 0)) ∧
      RefAt ((w2.setCell ⟨b, 0, none⟩ (.slice A' l.length c')).setCell ⟨b, 1, none⟩ (.int .i64 (l.length : Int))) b (Value.slice A' l.length c').ownBlock ⟨l, l.length, s.calls⟩ ∧
      (∀ k, (Value.slice A' l.length c').ownBlock = some k → w0.heap.size ≤ k) ∧ Keeps (fun k => k = b) w0 ((w2.setCell ⟨b, 0, none⟩ (.slice A' l.length c')).setCell ⟨b, 1, none⟩ (.int .i64 (l.length : Int))) := by
  have hlt := h1.lt.1
  have hc := h1.calls
  obtain ⟨A, c, g1, _⟩ := h1
  have g2 := below_heap m.2.2 g1
  have s1 := hk.size
  have hne : ∀ k, (Value.slice A' l.length c').ownBlock = some k → k ≠ b := fun k e hk' => by have := m.2.1 k e; omega
  have o1 := ownsRow_setCell_other m.1 (a := ⟨b, 0, none⟩) (fun e => hne b e rfl) (.slice A' l.length c')
  have o2 := ownsRow_setCell_other o1 (a := ⟨b, 1, none⟩) (fun e => hne b e rfl) (.int .i64 (l.length : Int))
  refine ⟨_, g2, ⟨A', c', ?_, o2, rfl, Nat.le_refl _, hc, fun e => hne b e rfl⟩, fun k hk' => by have := m.2.1 k hk'; omega, ((hk.below m.2.2).setCell (p := ⟨b, 0, none⟩) (fun _ => rfl) _).setCell (p := ⟨b, 1, none⟩) (fun _ => rfl) _⟩
  rw [heap_set (heap_set g2)]
  simp [rcells]


/-- What 'call' leaves where it says yes. -/
def Called (w : World) (b : Nat) (r : Option Nat) (s : RS) : Prop :=
  Calls Tryd.prog 48 #[.pointer (some ⟨b, 0, none⟩)] w fun e w' => e = .returned (.bool true) ∧ RefAt w' b r s ∧ Keeps (fun k => k = b) w w'

theorem rcut_no {w : World} {b : Nat} {r : Option Nat} {s : RS} {n : Int} (C : Calls Tryd.prog 48 #[.pointer (some ⟨b, 0, none⟩)] w fun e w' => e = .returned (.bool false) ∧ RefAt w' b r s ∧ Keeps (fun k => k = b) w w') :
    Calls Tryd.prog 42 #[.pointer (some ⟨b, 0, none⟩), .int .i64 n] w fun e w' => e = .returned (.int .i64 9) ∧ ∃ r', RefAt w' b r' s ∧ Next w r r' ∧ Keeps (Foot b r) w w' := by
  have HC := hid C
  clear C
  go_enter Tryd.func42, Tryd.ntmps42
  go_wp2_with fail
  refine HC.out.mono ?_
  rintro e w1 ⟨rfl, h1, k1⟩
  go_wp2
  go_ret
  exact ⟨rfl, r, h1, fun k hk => .inl hk, k1.mono fun k _ e => .inl e⟩

/-- Nothing to cut, n is not below 0. -/
theorem rcut_skip {w : World} {b : Nat} {r : Option Nat} {s : RS} {n : Int} (C : Called w b r s) (h0 : ¬ n < 0) (hn : ¬ n < (s.p.length : Int)) :
    Calls Tryd.prog 42 #[.pointer (some ⟨b, 0, none⟩), .int .i64 n] w fun e w' => e = .returned (.int .i64 0) ∧ ∃ r', RefAt w' b r' { s with safe := s.p.length } ∧ Next w r r' ∧ Keeps (Foot b r) w w' := by
  have HC := hid C
  clear C
  have hd0 : decide (n < 0) = false := by simp; omega
  go_enter Tryd.func42, Tryd.ntmps42
  go_wp2_with fail
  refine HC.out.mono ?_
  rintro e w1 ⟨rfl, h1, k1⟩
  obtain ⟨A, c, g1, _, g3, _⟩ := h1.set
  have F := hid (g3 s.p.length (Nat.le_refl _))
  have c0 := cell_at g1 (i := 0) (v := .slice A s.p.length c) rfl
  have c1 := cell_at g1 (i := 1) (v := .int .i64 (s.safe : Int)) rfl
  have f1 := free_at g1 1
  have hlt : decide (n < (s.p.length : Int)) = false := by simp; omega
  clear g1 g3 h1 HC h0 hn
  go_wp2
  go_ret
  exact ⟨rfl, r, F.out.1, fun k hk => .inl hk, (k1.then F.out.2 (fun _ _ e => e)).mono fun k _ e => .inl e⟩

/-- Nothing to cut, n is below 0. -/
theorem rcut_skip0 {w : World} {b : Nat} {r : Option Nat} {s : RS} {n : Int} (C : Called w b r s) (h0 : n < 0) (hn : s.p.length = 0) :
    Calls Tryd.prog 42 #[.pointer (some ⟨b, 0, none⟩), .int .i64 n] w fun e w' => e = .returned (.int .i64 0) ∧ ∃ r', RefAt w' b r' { s with safe := s.p.length } ∧ Next w r r' ∧ Keeps (Foot b r) w w' := by
  have HC := hid C
  have HN := hid hn
  clear C hn
  have hd0 : decide (n < 0) = true := by simp [h0]
  go_enter Tryd.func42, Tryd.ntmps42
  go_wp2_with fail
  refine HC.out.mono ?_
  rintro e w1 ⟨rfl, h1, k1⟩
  obtain ⟨A, c, g1, _, g3, _⟩ := h1.set
  have F := hid (g3 s.p.length (Nat.le_refl _))
  rw [HN.out] at g1
  have F' : Hid (RefAt (w1.setCell ⟨b, 1, none⟩ (.int .i64 0)) b r { s with safe := s.p.length } ∧ Keeps (fun k => k = b) w1 (w1.setCell ⟨b, 1, none⟩ (.int .i64 0))) := by
    have := F.out
    have e0 : ((s.p.length : Nat) : Int) = 0 := by rw [HN.out]; rfl
    rw [e0] at this
    exact hid this
  have c0 := cell_at g1 (i := 0) (v := .slice A 0 c) rfl
  have c1 := cell_at g1 (i := 1) (v := .int .i64 (s.safe : Int)) rfl
  have f1 := free_at g1 1
  clear g1 g3 h1 HC F h0
  go_wp2
  go_ret
  exact ⟨rfl, r, F'.out.1, fun k hk => .inl hk, (k1.then F'.out.2 (fun _ _ e => e)).mono fun k _ e => .inl e⟩
end Go.Proofs.YtponofojildbmaaDoor
