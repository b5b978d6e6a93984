/- The walks of package disk, the methods: a disk in memory ('DiskAt') and what each method makes of it. -/
import Derived.Test.YtponofojildbmaaDoorDiskA
import Derived.Deep.RegionLaw
set_option linter.unusedVariables false
set_option linter.unusedSimpArgs false
namespace Go.Proofs.YtponofojildbmaaDoor
open Go.RowKit

/-- A disk: its bytes, how many are safe, how many calls it does yet, whether it counts them. -/
structure DS where
  p : List UInt8
  safe : Nat
  calls : Nat
  fails : Bool
/-- The disk s lies at block b; its bytes' row is r. -/
def DiskAt (w : World) (b : Nat) (r : Option Nat) (s : DS) : Prop :=
  ∃ A c, w.heap[b]? = some (.cells (dcells (.slice A s.p.length c) s.safe s.calls s.fails) 71 (0, 0)) ∧ w.ownsRow 0 5 1 (.slice A s.p.length c) s.p.length (bytesV s.p) ∧ (Value.slice A s.p.length c).ownBlock = r ∧ s.safe ≤ s.p.length ∧ s.calls ≤ 9223372036854775807 ∧ r ≠ some b

theorem own_block {w : World} {base e size n : Nat} {v : Value} {xs : List Value} (h : w.ownsRow base e size v n xs) {k : Nat} (hk : v.ownBlock = some k) : ∃ cur, w.heap[k]? = some (.cells cur e (0, 0)) := by
  rcases h.2 with ⟨rfl, _⟩ | ⟨g, cap, cur, rfl, _, hg, _⟩
  · simp [Value.ownBlock] at hk
  · simp [Value.ownBlock] at hk; subst hk; exact ⟨cur, hg⟩

theorem DiskAt.keeps {S : Nat → Prop} {w w' : World} {b : Nat} {r : Option Nat} {s : DS} (h : DiskAt w b r s) (hk : Keeps S w w') (hb : ¬ S b) (hr : ∀ k, r = some k → ¬ S k) : DiskAt w' b r s := by
  obtain ⟨A, c, h1, h2, h3, h4, h5, h6⟩ := h
  exact ⟨A, c, hk.heap h1 hb, hk.own h2 (fun k e => hr k (h3 ▸ e)), h3, h4, h5, h6⟩

set_option maxHeartbeats 400000 in
theorem new_any {w : World} {A : Option Addr} {c : Nat} {l : List UInt8} (h : BSA w A c l) (hbig : l.length ≤ 140737488355328) :
    Calls Tryd.prog 20 #[.slice A l.length c] w fun e w' => ∃ b r, e = .returned (.pointer (some ⟨b, 0, none⟩)) ∧ DiskAt w' b r ⟨l, l.length, 0, false⟩ ∧ w.heap.size ≤ b ∧ (∀ k, r = some k → w.heap.size ≤ k) ∧ Below w.heap.size w w' := by
  go_enter Tryd.func20, Tryd.ntmps20
  go_wp2_with fail
  refine (clone_any h hbig).mono ?_
  rintro e w1 ⟨A', c', rfl, h1, h2, h3⟩
  go_wp2
  go_ret
  have hlt : ∀ k, (Value.slice A' l.length c').ownBlock = some k → k < w1.heap.size := fun k hk => by obtain ⟨cur, hc⟩ := own_block h1 hk; exact lt_of_block hc
  exact ⟨w1.heap.size, (Value.slice A' l.length c').ownBlock, rfl, ⟨A', c', heap_alloc_new _ _, h1.alloc _, rfl, Nat.le_refl _, by simp, fun e => by have := hlt _ e; omega⟩, h3.size, h2, h3.alloc h3.size _⟩

theorem read_any {w : World} {b : Nat} {r : Option Nat} {s : DS} (h : DiskAt w b r s) (hbig : s.p.length ≤ 140737488355328) :
    Calls Tryd.prog 27 #[.pointer (some ⟨b, 0, none⟩)] w fun e w' => ∃ A' c', e = .returned (.slice A' s.p.length c') ∧ w'.ownsRow 0 5 1 (.slice A' s.p.length c') s.p.length (bytesV s.p) ∧ (∀ k, (Value.slice A' s.p.length c').ownBlock = some k → w.heap.size ≤ k) ∧ Below w.heap.size w w' := by
  obtain ⟨A, c, h1, h2, h3, h4, h5, h6⟩ := h
  obtain ⟨_, _, hb⟩ := own_bsa h2
  have c0 := cell_at h1 (i := 0) rfl
  go_enter Tryd.func27, Tryd.ntmps27
  clear h1 h2 h3 h4 h5 h6
  go_wp2_with fail
  refine (clone_any hb hbig).mono ?_
  rintro e w1 ⟨A', c', rfl, h1, h2, h3⟩
  go_wp2
  go_ret
  exact ⟨A', c', rfl, h1, h2, h3⟩

theorem safe_any {w : World} {b : Nat} {r : Option Nat} {s : DS} (h : DiskAt w b r s) :
    Calls Tryd.prog 35 #[.pointer (some ⟨b, 0, none⟩)] w fun e w' => e = .returned (.int .i64 (s.safe : Int)) ∧ w = w' := by
  obtain ⟨A, c, h1, h2, h3, h4, h5, h6⟩ := h
  have c1 := cell_at h1 (i := 1) (v := .int .i64 (s.safe : Int)) rfl
  clear h1 h2 h3 h4 h5 h6
  go_enter Tryd.func35, Tryd.ntmps35
  go_wp2
  go_ret
  exact ⟨rfl, rfl⟩

/-- What Fail makes of a disk. -/
def DS.fail (s : DS) (n : Int) : DS := { s with calls := n.toNat, fails := decide (0 ≤ n) }

theorem fail_any {w : World} {b : Nat} {r : Option Nat} {s : DS} (h : DiskAt w b r s) (n : Int) (hn : n ≤ 9223372036854775807) :
    Calls Tryd.prog 22 #[.pointer (some ⟨b, 0, none⟩), .int .i64 n] w fun e w' => e = .returned (.tuple #[]) ∧ DiskAt w' b r (s.fail n) ∧ Keeps (fun k => k = b) w w' := by
  obtain ⟨A, c, h1, h2, h3, h4, h5, h6⟩ := h
  have c2 := cell_at h1 (i := 2) (v := .int .i64 (s.calls : Int)) rfl
  have c3 := cell_at h1 (i := 3) (v := .bool s.fails) rfl
  have f2 := free_at h1 2
  have f3 := free_at h1 3
  have fin : ∀ (m : Int) (fl : Bool), m = ((s.fail n).calls : Int) → fl = (s.fail n).fails → DiskAt ((w.setCell ⟨b, 2, none⟩ (.int .i64 m)).setCell ⟨b, 3, none⟩ (.bool fl)) b r (s.fail n) ∧ Keeps (fun k => k = b) w ((w.setCell ⟨b, 2, none⟩ (.int .i64 m)).setCell ⟨b, 3, none⟩ (.bool fl)) := by
    intro m fl em ef
    have hk : Keeps (fun k => k = b) w ((w.setCell ⟨b, 2, none⟩ (.int .i64 m)).setCell ⟨b, 3, none⟩ (.bool fl)) := ((Keeps.refl (fun k => k = b) w).setCell (p := ⟨b, 2, none⟩) (fun _ => rfl) _).setCell (p := ⟨b, 3, none⟩) (fun _ => rfl) _
    refine ⟨⟨A, c, ?_, hk.own h2 (fun k e e' => h6 (by subst e'; rw [← h3]; exact e)), h3, h4, by simp [DS.fail]; omega, h6⟩, hk⟩
    rw [heap_set (heap_set h1)]
    subst em ef
    simp [dcells, DS.fail]
  clear h1 h2 h3 h4 h5 h6
  by_cases h0 : 0 ≤ n
  · have hd : decide (0 ≤ n) = true := by simp [h0]
    have F := hid (fin n true (by simp [DS.fail]; omega) (by simp [DS.fail, h0]))
    clear fin
    go_enter Tryd.func22, Tryd.ntmps22
    go_wp2
    go_end0
    exact ⟨rfl, F.out⟩
  · have hd : decide (0 ≤ n) = false := by simp; omega
    have F := hid (fin 0 false (by simp [DS.fail]; omega) (by simp [DS.fail, h0]))
    clear fin
    go_enter Tryd.func22, Tryd.ntmps22
    go_wp2
    go_end0
    exact ⟨rfl, F.out⟩

theorem append1_any {w : World} {b B0 B1 : Nat} {r : Option Nat} {s : DS} {A2 : Option Addr} {c2 : Nat} {q : List UInt8} {t0 t1 : TypeId} (h : DiskAt w b r s) (h0 : w.heap[B0]? = some (.cells #[.pointer (some ⟨b, 0, none⟩)] t0 (0, 0))) (h1 : w.heap[B1]? = some (.cells #[.slice A2 q.length c2] t1 (0, 0)))
    (hq : BSA w A2 c2 q) (hbig : s.p.length + q.length ≤ 140737488355328) (n0 : B0 ≠ b ∧ r ≠ some B0) (n1 : B1 ≠ b ∧ r ≠ some B1) :
    Calls Tryd.prog 55 #[.pointer (some ⟨B0, 0, none⟩), .pointer (some ⟨B1, 0, none⟩)] w fun e w' => e = .returned (.tuple #[]) ∧ ∃ r', DiskAt w' b r' { s with p := s.p ++ q } ∧ (r' = r ∨ r' = some w.heap.size) ∧ Keeps (fun k => k = b ∨ r = some k) w w' := by
  obtain ⟨A, c, g1, g2, g3, g4, g5, g6⟩ := h
  have fin : ∀ A' c' w1, w1.ownsRow 0 5 1 (.slice A' (s.p.length + q.length) c') (s.p.length + q.length) (bytesV (s.p ++ q)) → w.drew.grownBy w1 (Value.slice A s.p.length c).ownBlock → ((Value.slice A' (s.p.length + q.length) c').ownBlock = (Value.slice A s.p.length c).ownBlock ∨ (Value.slice A' (s.p.length + q.length) c').ownBlock = some w.heap.size) →
      ∃ r', DiskAt (w1.setCell ⟨b, 0, none⟩ (.slice A' (s.p.length + q.length) c')) b r' { s with p := s.p ++ q } ∧ (r' = r ∨ r' = some w.heap.size) ∧ Keeps (fun k => k = b ∨ r = some k) w (w1.setCell ⟨b, 0, none⟩ (.slice A' (s.p.length + q.length) c')) := by
    intro A' c' w1 k1 k2 k3
    rw [g3] at k2 k3
    have e1 := (k2.block b (lt_of_block g1) (fun e => g6 e.symm)).trans g1
    have hb' : (Value.slice A' (s.p.length + q.length) c').ownBlock ≠ some b := by
      rcases k3 with k3 | k3
      · rw [k3]; exact g6
      · rw [k3]; intro e; have := lt_of_block g1; simp at e; omega
    have k1' := ownsRow_setCell_other k1 (a := ⟨b, 0, none⟩) hb' (.slice A' (s.p.length + q.length) c')
    refine ⟨(Value.slice A' (s.p.length + q.length) c').ownBlock, ⟨A', c', ?_, by simpa using k1', by simp, by simp; omega, g5, hb'⟩, k3, ?_⟩
    · rw [heap_set e1]; simp [dcells]
    · exact (((Keeps.refl (fun k => k = b ∨ r = some k) w).drew).grown k2 (fun k e _ => .inr e)).setCell (p := ⟨b, 0, none⟩) (fun _ => .inl rfl) _
  have F := hid fin
  clear fin
  have d0 := cell_of_one h0
  have d1 := cell_of_one h1
  have c0 := cell_at g1 (i := 0) (v := .slice A s.p.length c) rfl
  have f0 := free_at g1 0
  go_enter Tryd.func55, Tryd.ntmps55
  go_wp2
  go_region_law (refine step_app8 22 5 Tryd.underlying22 infoU8 rfl (.tmp 6) (.tmp 7) rfl _ s.p rfl g2 A2 c2 q rfl hq hbig ?_; intro A' c' w1 k1 k2 k3 k4; have e1 : w1.heap[b]? = some (.cells (dcells (.slice A s.p.length c) s.safe s.calls s.fails) 71 (0, 0)) := (k2.block b (lt_of_block g1) (fun e => g6 (by rw [← g3]; exact e.symm))).trans g1; have d2 := cell_at e1 (i := 0) (v := .slice A s.p.length c) rfl; have d3 := free_at e1 0; have e2 : w1.heap[B0]? = some (.cells #[.pointer (some ⟨b, 0, none⟩)] t0 (0, 0)) := (k2.block B0 (lt_of_block h0) (fun e => n0.2 (by rw [← g3]; exact e.symm))).trans h0; have d4 := cell_of_one e2)
  all_goals (go_wp2; go_end0; exact ⟨rfl, F.out _ _ _ ‹_› ‹_› ‹_›⟩)
end Go.Proofs.YtponofojildbmaaDoor
