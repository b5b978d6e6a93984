/- The walks of the reference's disk: New, Append, Sync, Cut, Fail, Crash. -/
import Derived.Test.YtponofojildbmaaDoorRef07
import Derived.Test.YtponofojildbmaaDoorDiskE
set_option linter.unusedVariables false
set_option linter.unusedSimpArgs false
namespace Go.Proofs.YtponofojildbmaaDoor
open Go.RowKit PrintLast

theorem RefAt.calls {w : World} {b : Nat} {r : Option Nat} {s : RS} (h : RefAt w b r s) : -1 ≤ s.calls ∧ s.calls ≤ 9223372036854775807 := by obtain ⟨_, _, _, _, _, _, h5, _⟩ := h; exact h5

theorem rnew_any {w : World} {A : Option Addr} {c : Nat} {l : List UInt8} (h : BSA w A c l) (hbig : l.length ≤ 140737488355328) :
    Calls Tryd.prog 21 #[.slice A l.length c] w fun e w' => ∃ b r, e = .returned (.pointer (some ⟨b, 0, none⟩)) ∧ RefAt w' b r ⟨l, l.length, -1⟩ ∧ w.heap.size ≤ b ∧ (∀ k, r = some k → w.heap.size ≤ k) ∧ Below w.heap.size w w' := by
  have J := join_any h (BSA.nil w) (by simp; omega)
  simp only [List.length_nil, Nat.add_zero, List.append_nil] at J
  have HJ := hid J
  clear J
  go_enter Tryd.func21, Tryd.ntmps21
  go_wp2_with fail
  refine HJ.out.mono ?_
  rintro e w1 ⟨A', c', rfl, h1, h2, h3⟩
  go_wp2
  go_ret
  have hlt : ∀ k, (Value.slice A' l.length c').ownBlock = some k → k < w1.heap.size := fun k hk => (h1.lt k hk).2
  exact ⟨w1.heap.size, (Value.slice A' l.length c').ownBlock, rfl, ⟨A', c', heap_alloc_new _ _, h1.alloc _, rfl, Nat.le_refl _, by simp, fun e => by have := hlt _ e; omega⟩, h3.size, h2, h3.alloc h3.size _⟩

theorem rfail_any {w : World} {b : Nat} {r : Option Nat} {s : RS} (h : RefAt w b r s) (n : Int) (hn : n ≤ 9223372036854775807) :
    Calls Tryd.prog 23 #[.pointer (some ⟨b, 0, none⟩), .int .i64 n] w fun e w' => e = .returned (.tuple #[]) ∧ RefAt w' b r (s.fail n) ∧ Keeps (fun k => k = b) w w' := by
  obtain ⟨A, c, g1, _, _, g4, _⟩ := h.set
  have f2 := free_at g1 2
  have c2 := cell_at g1 (i := 2) (v := .int .i64 s.calls) rfl
  by_cases h0 : n < 0
  · have e1 := heap_set (i := 2) (v := .int .i64 n) g1
    have d2 := cell_at e1 (i := 2) (v := .int .i64 n) (by simp [rcells])
    have d3 := free_at e1 2
    have FIN : RefAt ((w.setCell ⟨b, 2, none⟩ (.int .i64 n)).setCell ⟨b, 2, none⟩ (.int .i64 (-1))) b r (s.fail n) ∧ Keeps (fun k => k = b) w ((w.setCell ⟨b, 2, none⟩ (.int .i64 n)).setCell ⟨b, 2, none⟩ (.int .i64 (-1))) := by
      obtain ⟨A, c, q1, q2, q3, q4, q5, q6⟩ := h
      have hk : Keeps (fun k => k = b) w ((w.setCell ⟨b, 2, none⟩ (.int .i64 n)).setCell ⟨b, 2, none⟩ (.int .i64 (-1))) := ((Keeps.refl (fun k => k = b) w).setCell (p := ⟨b, 2, none⟩) (fun _ => rfl) _).setCell (p := ⟨b, 2, none⟩) (fun _ => rfl) _
      refine ⟨⟨A, c, ?_, hk.own q2 (fun k e e' => q6 (by subst e'; rw [← q3]; exact e)), q3, q4, by simp [RS.fail, h0], q6⟩, hk⟩
      rw [heap_set (heap_set q1)]
      simp [rcells, RS.fail, h0]
    have HF := hid FIN
    clear FIN g1 g4 e1 h
    go_enter Tryd.func23, Tryd.ntmps23
    go_wp2
    go_end0
    exact ⟨rfl, HF.out⟩
  · have e : s.fail n = { s with calls := n } := by simp [RS.fail, h0]
    have HF := hid (g4 n (by omega) hn)
    rw [e]
    clear g1 g4 e h
    go_enter Tryd.func23, Tryd.ntmps23
    go_wp2
    go_end0
    exact ⟨rfl, HF.out⟩

theorem rsync_any {w : World} {b : Nat} {r : Option Nat} {s : RS} (h : RefAt w b r s) :
    Calls Tryd.prog 33 #[.pointer (some ⟨b, 0, none⟩)] w fun e w' => e = .returned (.int .i64 s.errno) ∧ RefAt w' b r s.sync ∧ Keeps (fun k => k = b) w w' := by
  have C := rcall_any h
  cases ho : s.ok with
  | false =>
    have e : s.errno = 9 ∧ s.sync = s ∧ s.called = s := ⟨by simp [RS.errno, ho], by simp [RS.sync, ho], by
      obtain ⟨p, sf, cl⟩ := s
      simp [RS.ok] at ho
      simp [RS.called, ho]⟩
    rw [ho] at C
    rw [e.1, e.2.1]
    rw [e.2.2] at C
    have HC := hid C
    clear C e ho
    go_enter Tryd.func33, Tryd.ntmps33
    go_wp2_with fail
    refine HC.out.mono ?_
    rintro e w1 ⟨rfl, h1, k1⟩
    go_wp2
    go_ret
    exact ⟨rfl, h1, k1⟩
  | true =>
    have e : s.errno = 0 ∧ s.sync = { s.called with safe := s.p.length } := ⟨by simp [RS.errno, ho], by simp [RS.sync, ho]⟩
    rw [ho] at C
    rw [e.1, e.2]
    have HC := hid C
    clear C e ho
    go_enter Tryd.func33, Tryd.ntmps33
    go_wp2_with fail
    refine HC.out.mono ?_
    rintro e w1 ⟨rfl, h1, k1⟩
    obtain ⟨A, c, g1, _, g3, _⟩ := h1.set
    have F := hid (g3 s.p.length (Nat.le_refl _))
    have c0 := cell_at g1 (i := 0) (v := .slice A s.p.length c) rfl
    have c1 := cell_at g1 (i := 1) (v := .int .i64 (s.called.safe : Int)) rfl
    have f1 := free_at g1 1
    clear g1 g3 h1 h
    go_wp2
    go_ret
    exact ⟨rfl, F.out.1, k1.then F.out.2 (fun _ _ e => e)⟩

set_option maxHeartbeats 400000 in
theorem rappend_any {w : World} {b : Nat} {r : Option Nat} {s : RS} {A2 : Option Addr} {c2 : Nat} {q : List UInt8} (h : RefAt w b r s) (hq : BSA w A2 c2 q) (hqb : ∀ ad, A2 = some ad → 0 < q.length → ad.block ≠ b) (hbig : s.p.length + q.length ≤ 140737488355328) :
    Calls Tryd.prog 32 #[.pointer (some ⟨b, 0, none⟩), .slice A2 q.length c2] w fun e w' => e = .returned (.int .i64 s.errno) ∧ ∃ r', RefAt w' b r' (s.append q) ∧ Next w r r' ∧ Keeps (Foot b r) w w' := by
  have C := rcall_any h
  cases ho : s.ok with
  | false =>
    have e : s.errno = 9 ∧ s.append q = s ∧ s.called = s := ⟨by simp [RS.errno, ho], by simp [RS.append, ho], by
      obtain ⟨p, sf, cl⟩ := s
      simp [RS.ok] at ho
      simp [RS.called, ho]⟩
    rw [ho] at C
    rw [e.1, e.2.1]
    rw [e.2.2] at C
    have HC := hid C
    clear C e ho
    go_enter Tryd.func32, Tryd.ntmps32
    go_wp2_with fail
    refine HC.out.mono ?_
    rintro e w1 ⟨rfl, h1, k1⟩
    go_wp2
    go_ret
    exact ⟨rfl, r, h1, fun k hk => .inl hk, k1.mono fun k _ e => .inl e⟩
  | true =>
    have e : s.errno = 0 ∧ s.append q = { s.called with p := s.p ++ q } := ⟨by simp [RS.errno, ho], by simp [RS.append, ho]⟩
    rw [ho] at C
    rw [e.1, e.2]
    have HC := hid C
    have hle := h.le
    clear C e ho
    go_enter Tryd.func32, Tryd.ntmps32
    go_wp2_with fail
    refine HC.out.mono ?_
    rintro e w1 ⟨rfl, h1, k1⟩
    obtain ⟨A, c, g1, gb, _, _, _⟩ := h1.set
    have c0 := cell_at g1 (i := 0) (v := .slice A s.p.length c) rfl
    have J := hid (join_any (x := s.p) gb (hq.keeps' k1 (fun ad e hl e' => hqb ad e hl e')) hbig)
    go_wp2_with fail
    refine J.out.mono ?_
    rintro e w2 ⟨A', c', rfl, m⟩
    have h2 := h1.keeps (Keeps.of_below (S := fun _ => False) m.2.2) (fun e => e) (fun _ _ e => e)
    obtain ⟨_, _, g2, _, _, _, g5⟩ := h2.set
    have el : (s.p ++ q).length = s.p.length + q.length := by simp
    have hne : (Value.slice A' (s.p ++ q).length c').ownBlock ≠ some b := fun e => by
      have := m.2.1 b (by rw [← el]; exact e)
      have := (h1.lt).1
      omega
    have F := g5 A' c' (s.p ++ q) (by have := m.1; rw [el] at *; exact this) hne (by show s.safe ≤ _; rw [el]; omega)
    simp only [el] at F
    have HF := hid F
    have fr := hid m.2.1
    have K2 := hid (k1.below m.2.2)
    have s1 := k1.size
    have p0 := free_at g2 0
    have p1 := below_cell m.2.2 c0
    clear F g5 g1 g2 h1 h2 m hne gb J HC c0 hq h
    go_wp2
    go_ret
    exact ⟨rfl, _, HF.out.1, fun k hk => .inr (by have := fr.out k hk; omega), (K2.out.then HF.out.2 (fun _ _ e => e)).mono fun k _ e => .inl e⟩
end Go.Proofs.YtponofojildbmaaDoor
