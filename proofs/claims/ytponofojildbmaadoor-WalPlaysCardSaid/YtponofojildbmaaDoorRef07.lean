/- The reference's disk in memory ('RefAt'), and what each of its functions makes of it. -/
import Derived.Test.YtponofojildbmaaDoorRef01
import Derived.Test.YtponofojildbmaaDoorDiskB
set_option linter.unusedVariables false
set_option linter.unusedSimpArgs false
namespace Go.Proofs.YtponofojildbmaaDoor
open Go.RowKit PrintLast

structure RS where
  p : List UInt8
  safe : Nat
  calls : Int
def rcells (v : Value) (safe : Nat) (calls : Int) : Array Value := #[v, .int .i64 (safe : Int), .int .i64 calls]
def RefAt (w : World) (b : Nat) (r : Option Nat) (s : RS) : Prop :=
  ∃ A c, w.heap[b]? = some (.cells (rcells (.slice A s.p.length c) s.safe s.calls) 51 (0, 0)) ∧ w.ownsRow 0 5 1 (.slice A s.p.length c) s.p.length (bytesV s.p) ∧ (Value.slice A s.p.length c).ownBlock = r ∧ s.safe ≤ s.p.length ∧ (-1 ≤ s.calls ∧ s.calls ≤ 9223372036854775807) ∧ r ≠ some b

theorem RefAt.keeps {S : Nat → Prop} {w w' : World} {b : Nat} {r : Option Nat} {s : RS} (h : RefAt w b r s) (hk : Keeps S w w') (hb : ¬ S b) (hr : ∀ k, r = some k → ¬ S k) : RefAt w' b r s := by
  obtain ⟨A, c, h1, h2, h3, h4, h5, h6⟩ := h
  exact ⟨A, c, hk.heap h1 hb, hk.own h2 (fun k e => hr k (h3 ▸ e)), h3, h4, h5, h6⟩
theorem RefAt.lt {w : World} {b : Nat} {r : Option Nat} {s : RS} (h : RefAt w b r s) : b < w.heap.size ∧ ∀ k, r = some k → k < w.heap.size := by
  obtain ⟨A, c, g1, g2, g3, _⟩ := h
  exact ⟨lt_of_block g1, fun k hk => by obtain ⟨cur, hc⟩ := own_block g2 (g3.trans hk); exact lt_of_block hc⟩
theorem RefAt.le {w : World} {b : Nat} {r : Option Nat} {s : RS} (h : RefAt w b r s) : s.safe ≤ s.p.length := by
  obtain ⟨A, c, _, _, _, h4, _⟩ := h
  exact h4

/-- A field of the reference's disk is written. -/
theorem RefAt.set {w : World} {b : Nat} {r : Option Nat} {s : RS} (h : RefAt w b r s) : ∃ A c, w.heap[b]? = some (.cells (rcells (.slice A s.p.length c) s.safe s.calls) 51 (0, 0)) ∧ BSA w A c s.p ∧
    (∀ k : Nat, k ≤ s.p.length → RefAt (w.setCell ⟨b, 1, none⟩ (.int .i64 (k : Int))) b r { s with safe := k } ∧ Keeps (fun k => k = b) w (w.setCell ⟨b, 1, none⟩ (.int .i64 (k : Int)))) ∧
    (∀ k : Int, -1 ≤ k → k ≤ 9223372036854775807 → RefAt (w.setCell ⟨b, 2, none⟩ (.int .i64 k)) b r { s with calls := k } ∧ Keeps (fun k => k = b) w (w.setCell ⟨b, 2, none⟩ (.int .i64 k))) ∧
    (∀ (A' : Option Addr) (c' : Nat) (l : List UInt8), w.ownsRow 0 5 1 (.slice A' l.length c') l.length (bytesV l) → (Value.slice A' l.length c').ownBlock ≠ some b → s.safe ≤ l.length → RefAt (w.setCell ⟨b, 0, none⟩ (.slice A' l.length c')) b (Value.slice A' l.length c').ownBlock { s with p := l } ∧ Keeps (fun k => k = b) w (w.setCell ⟨b, 0, none⟩ (.slice A' l.length c'))) := by
  obtain ⟨A, c, g1, g2, g3, g4, g5, g6⟩ := h
  have hk : ∀ i u, Keeps (fun k => k = b) w (w.setCell ⟨b, i, none⟩ u) := fun i u => (Keeps.refl (fun k => k = b) w).setCell (p := ⟨b, i, none⟩) (fun _ => rfl) u
  have ho : ∀ i u, (w.setCell ⟨b, i, none⟩ u).ownsRow 0 5 1 (.slice A s.p.length c) s.p.length (bytesV s.p) := fun i u => (hk i u).own g2 (fun k e e' => g6 (by subst e'; rw [← g3]; exact e))
  refine ⟨A, c, g1, (own_bsa g2).2.2, fun k hk' => ⟨⟨A, c, ?_, ho _ _, g3, hk', g5, g6⟩, hk _ _⟩, fun k h1 h2 => ⟨⟨A, c, ?_, ho _ _, g3, g4, ⟨h1, h2⟩, g6⟩, hk _ _⟩, fun A' c' l ol hne hs => ⟨⟨A', c', ?_, (hk _ _).own ol (fun k e e' => hne (by rw [e, e'])), rfl, hs, g5, hne⟩, hk _ _⟩⟩
  · rw [heap_set g1]; simp [rcells]
  · rw [heap_set g1]; simp [rcells]
  · rw [heap_set g1]; simp [rcells]

def RS.ok (s : RS) : Bool := !(s.calls == 0)
def RS.called (s : RS) : RS := { s with calls := if 0 < s.calls then s.calls - 1 else s.calls }
def RS.errno (s : RS) : Int := if s.ok then 0 else 9
def RS.append (s : RS) (q : List UInt8) : RS := if s.ok then { s.called with p := s.p ++ q } else s
def RS.sync (s : RS) : RS := if s.ok then { s.called with safe := s.p.length } else s
def RS.cuts (s : RS) (n : Int) : RS := if s.ok then { s.called with p := s.p.take n.toNat, safe := (s.p.take n.toNat).length } else s
def RS.fail (s : RS) (n : Int) : RS := { s with calls := if n < 0 then -1 else n }
def RS.crash (s : RS) (n : Int) : RS := { p := s.p.take (s.safe + n.toNat), safe := (s.p.take (s.safe + n.toNat)).length, calls := -1 }

theorem rcall_any {w : World} {b : Nat} {r : Option Nat} {s : RS} (h : RefAt w b r s) :
    Calls Tryd.prog 48 #[.pointer (some ⟨b, 0, none⟩)] w fun e w' => e = .returned (.bool s.ok) ∧ RefAt w' b r s.called ∧ Keeps (fun k => k = b) w w' := by
  obtain ⟨A, c, g1, _, _, g4, _⟩ := h.set
  have c2 := cell_at g1 (i := 2) (v := .int .i64 s.calls) rfl
  have f2 := free_at g1 2
  have hb : -1 ≤ s.calls ∧ s.calls ≤ 9223372036854775807 := by obtain ⟨_, _, _, _, _, _, h5, _⟩ := h; exact h5
  obtain ⟨hb1, hb2⟩ := hb
  clear g1
  by_cases h0 : s.calls = 0
  · have t0 : (s.calls == 0) = true := by simp [h0]
    have F := hid (show s.ok = false ∧ s.called = s by obtain ⟨p, safe, calls⟩ := s; simp only at h0; subst h0; exact ⟨rfl, rfl⟩)
    have H := hid h
    clear h0 h g4
    go_enter Tryd.func48, Tryd.ntmps48
    go_wp2
    go_ret
    exact ⟨by rw [F.out.1]; rfl, by rw [F.out.2]; exact H.out, Keeps.refl _ _⟩
  · have t0 : (s.calls == 0) = false := by simp [h0]
    by_cases h1 : 0 < s.calls
    · have F := hid (show s.ok = true ∧ s.called = { s with calls := s.calls - 1 } by simp [RS.ok, RS.called, h1, t0])
      have G := hid (g4 (s.calls - 1) (by omega) (by omega))
      clear h g4 h0
      go_enter Tryd.func48, Tryd.ntmps48
      go_wp2
      go_ret
      exact ⟨by rw [F.out.1]; rfl, by rw [F.out.2]; exact G.out.1, G.out.2⟩
    · have F := hid (show s.ok = true ∧ s.called = s by obtain ⟨p, safe, calls⟩ := s; simp only at h1 t0; simp [RS.ok, RS.called, h1, t0])
      have H := hid h
      clear h g4 h0
      go_enter Tryd.func48, Tryd.ntmps48
      go_wp2
      go_ret
      exact ⟨by rw [F.out.1]; rfl, by rw [F.out.2]; exact H.out, Keeps.refl _ _⟩
end Go.Proofs.YtponofojildbmaaDoor
