/- Package disk, each method by one contract: on a disk in memory, and of no disk. -/
import Derived.Test.YtponofojildbmaaDoorDiskD
import Derived.Test.YtponofojildbmaaDoorRef01
import Derived.Lib.SlBytesConst
set_option linter.unusedVariables false
set_option linter.unusedSimpArgs false
namespace Go.Proofs.YtponofojildbmaaDoor
open Go.RowKit PrintLast

def DS.errno (s : DS) : Int := if s.ok then 0 else 9
def DS.append (s : DS) (q : List UInt8) : DS := if s.ok then { s.called with p := s.p ++ q } else s
def DS.sync (s : DS) : DS := if s.ok then { s.called with safe := s.p.length } else s
def DS.cuts (s : DS) (n : Int) : DS := if s.ok then s.called.cut n else s

/-- The blocks of a disk. -/
def Foot (b : Nat) (r : Option Nat) (k : Nat) : Prop := k = b ∨ r = some k
/-- Where the row lies behind a call: where it lay, or in new memory. -/
def Next (w : World) (r r' : Option Nat) : Prop := ∀ k, r' = some k → r = some k ∨ w.heap.size ≤ k

theorem append_at {w : World} {b : Nat} {r : Option Nat} {s : DS} {A2 : Option Addr} {c2 : Nat} {q : List UInt8} (h : DiskAt w b r s) (hq : BSA w A2 c2 q) (hbig : s.p.length + q.length ≤ 140737488355328) :
    Calls Tryd.prog 43 #[.pointer (some ⟨b, 0, none⟩), .slice A2 q.length c2] w fun e w' => e = .returned (.int .i64 s.errno) ∧ ∃ r', DiskAt w' b r' (s.append q) ∧ Next w r r' ∧ Keeps (Foot b r) w w' := by
  cases hy : s.ok with
  | true =>
    refine (append_yes h hq hbig hy).mono ?_
    rintro e w' ⟨rfl, r', h1, h2, h3⟩
    refine ⟨by simp [DS.errno, hy], r', by simpa [DS.append, hy] using h1, fun k hk => ?_, h3⟩
    rcases h2 with rfl | ⟨k', rfl, h2⟩
    · exact .inl hk
    · cases hk; exact .inr h2
  | false =>
    refine (append_nay h hy).mono ?_
    rintro e w' ⟨rfl, h1⟩
    have hk : Keeps (Foot b r) w w' := Keeps.of_below h1
    exact ⟨by simp [DS.errno, hy], r, by simpa [DS.append, hy] using h.keeps (Keeps.of_below (S := fun _ => False) h1) (fun e => e) (fun _ _ e => e), fun k hk => .inl hk, hk⟩

theorem sync_at {w : World} {b : Nat} {r : Option Nat} {s : DS} (h : DiskAt w b r s) :
    Calls Tryd.prog 44 #[.pointer (some ⟨b, 0, none⟩)] w fun e w' => e = .returned (.int .i64 s.errno) ∧ ∃ r', DiskAt w' b r' s.sync ∧ Next w r r' ∧ Keeps (Foot b r) w w' := by
  cases hy : s.ok with
  | true =>
    refine (sync_yes h hy).mono ?_
    rintro e w' ⟨rfl, h1, h3⟩
    exact ⟨by simp [DS.errno, hy], r, by simpa [DS.sync, hy] using h1, fun k hk => .inl hk, h3.mono fun k _ e => .inl e⟩
  | false =>
    refine (sync_nay h hy).mono ?_
    rintro e w' ⟨rfl, h1⟩
    exact ⟨by simp [DS.errno, hy], r, by simpa [DS.sync, hy] using h.keeps (Keeps.of_below (S := fun _ => False) h1) (fun e => e) (fun _ _ e => e), fun k hk => .inl hk, Keeps.of_below h1⟩

theorem cut_at {w : World} {b : Nat} {r : Option Nat} {s : DS} {n : Int} (h : DiskAt w b r s) (hn : -9223372036854775808 ≤ n ∧ n ≤ 9223372036854775807) (hbig : s.p.length ≤ 140737488355328) :
    Calls Tryd.prog 41 #[.pointer (some ⟨b, 0, none⟩), .int .i64 n] w fun e w' => e = .returned (.int .i64 s.errno) ∧ ∃ r', DiskAt w' b r' (s.cuts n) ∧ Next w r r' ∧ Keeps (Foot b r) w w' := by
  cases hy : s.ok with
  | true =>
    refine (cut_yes h hn hbig hy).mono ?_
    rintro e w' ⟨rfl, r', h1, h2, h3⟩
    exact ⟨by simp [DS.errno, hy], r', by simpa [DS.cuts, hy] using h1, fun k hk => .inr (h2 k hk), h3.mono fun k _ e => .inl e⟩
  | false =>
    refine (cut_nay h hy).mono ?_
    rintro e w' ⟨rfl, h1⟩
    exact ⟨by simp [DS.errno, hy], r, by simpa [DS.cuts, hy] using h.keeps (Keeps.of_below (S := fun _ => False) h1) (fun e => e) (fun _ _ e => e), fun k hk => .inl hk, Keeps.of_below h1⟩

/-- A disk all of whose blocks are numbered from B on. -/
def DiskB (w : World) (B b : Nat) (s : DS) : Prop := B ≤ b ∧ ∃ r, DiskAt w b r s ∧ ∀ k, r = some k → B ≤ k

theorem DiskB.step {w w' : World} {B b : Nat} {r r' : Option Nat} {s' : DS} (hB : B ≤ w.heap.size) (hb : B ≤ b) (hr : ∀ k, r = some k → B ≤ k) (h1 : DiskAt w' b r' s') (h2 : Next w r r') (h3 : Keeps (Foot b r) w w') : DiskB w' B b s' ∧ Below B w w' :=
  ⟨⟨hb, r', h1, fun k hk => by
    rcases h2 k hk with h | h
    · exact hr k h
    · omega⟩, ⟨h3.os, h3.tape, h3.output, h3.size, fun k hk => h3.block k (by omega) (fun e => by
      rcases e with e | e
      · omega
      · have := hr k e; omega)⟩⟩
theorem DiskB.below {w w' : World} {B b : Nat} {s : DS} (h : DiskB w B b s) (hb : Below w.heap.size w w') : DiskB w' B b s := by
  obtain ⟨h1, r, h2, h3⟩ := h
  exact ⟨h1, r, h2.keeps (Keeps.of_below (S := fun _ => False) hb) (fun e => e) (fun _ _ e => e), h3⟩

theorem new_B {w : World} {B : Nat} (hB : B ≤ w.heap.size) {A : Option Addr} {c : Nat} {l : List UInt8} (h : BSA w A c l) (hbig : l.length ≤ 140737488355328) :
    Calls Tryd.prog 20 #[.slice A l.length c] w fun e w' => ∃ b, e = .returned (.pointer (some ⟨b, 0, none⟩)) ∧ DiskB w' B b ⟨l, l.length, 0, false⟩ ∧ Below w.heap.size w w' :=
  (new_any h hbig).mono fun e w' ⟨b, r, he, h1, h2, h3, h4⟩ => ⟨b, he, ⟨by omega, r, h1, fun k hk => by have := h3 k hk; omega⟩, h4⟩

theorem append_B {w : World} {B b : Nat} (hB : B ≤ w.heap.size) {s : DS} {A2 : Option Addr} {c2 : Nat} {q : List UInt8} (h : DiskB w B b s) (hq : BSA w A2 c2 q) (hbig : s.p.length + q.length ≤ 140737488355328) :
    Calls Tryd.prog 43 #[.pointer (some ⟨b, 0, none⟩), .slice A2 q.length c2] w fun e w' => e = .returned (.int .i64 s.errno) ∧ DiskB w' B b (s.append q) ∧ Below B w w' := by
  obtain ⟨h1, r, h2, h3⟩ := h
  exact (append_at h2 hq hbig).mono fun e w' ⟨he, r', k1, k2, k3⟩ => ⟨he, DiskB.step hB h1 h3 k1 k2 k3⟩

theorem sync_B {w : World} {B b : Nat} (hB : B ≤ w.heap.size) {s : DS} (h : DiskB w B b s) :
    Calls Tryd.prog 44 #[.pointer (some ⟨b, 0, none⟩)] w fun e w' => e = .returned (.int .i64 s.errno) ∧ DiskB w' B b s.sync ∧ Below B w w' := by
  obtain ⟨h1, r, h2, h3⟩ := h
  exact (sync_at h2).mono fun e w' ⟨he, r', k1, k2, k3⟩ => ⟨he, DiskB.step hB h1 h3 k1 k2 k3⟩

theorem cut_B {w : World} {B b : Nat} (hB : B ≤ w.heap.size) {s : DS} {n : Int} (h : DiskB w B b s) (hn : -9223372036854775808 ≤ n ∧ n ≤ 9223372036854775807) (hbig : s.p.length ≤ 140737488355328) :
    Calls Tryd.prog 41 #[.pointer (some ⟨b, 0, none⟩), .int .i64 n] w fun e w' => e = .returned (.int .i64 s.errno) ∧ DiskB w' B b (s.cuts n) ∧ Below B w w' := by
  obtain ⟨h1, r, h2, h3⟩ := h
  exact (cut_at h2 hn hbig).mono fun e w' ⟨he, r', k1, k2, k3⟩ => ⟨he, DiskB.step hB h1 h3 k1 k2 k3⟩

theorem crash_B {w : World} {B b : Nat} (hB : B ≤ w.heap.size) {s : DS} {n : Int} (h : DiskB w B b s) (hn : -9223372036854775808 ≤ n ∧ n ≤ 9223372036854775807) (hbig : s.p.length ≤ 140737488355328) :
    Calls Tryd.prog 30 #[.pointer (some ⟨b, 0, none⟩), .int .i64 n] w fun e w' => e = .returned (.tuple #[]) ∧ DiskB w' B b (s.crash n) ∧ Below B w w' := by
  obtain ⟨h1, r, h2, h3⟩ := h
  exact (crash_any h2 hn hbig).mono fun e w' ⟨he, r', k1, k2, k3⟩ => ⟨he, DiskB.step hB h1 h3 k1 (fun k hk => .inr (k2 k hk)) (k3.mono fun k _ e => .inl e)⟩

theorem fail_B {w : World} {B b : Nat} (hB : B ≤ w.heap.size) {s : DS} (h : DiskB w B b s) (n : Int) (hn : n ≤ 9223372036854775807) :
    Calls Tryd.prog 22 #[.pointer (some ⟨b, 0, none⟩), .int .i64 n] w fun e w' => e = .returned (.tuple #[]) ∧ DiskB w' B b (s.fail n) ∧ Below B w w' := by
  obtain ⟨h1, r, h2, h3⟩ := h
  exact (fail_any h2 n hn).mono fun e w' ⟨he, k1, k3⟩ => ⟨he, DiskB.step hB h1 h3 k1 (fun k hk => .inl hk) (k3.mono fun k _ e => .inl e)⟩

theorem read_B {w : World} {B b : Nat} {s : DS} (h : DiskB w B b s) (hbig : s.p.length ≤ 140737488355328) :
    Calls Tryd.prog 27 #[.pointer (some ⟨b, 0, none⟩)] w fun e w' => ∃ A' c', e = .returned (.slice A' s.p.length c') ∧ Made w w' (.slice A' s.p.length c') s.p := by
  obtain ⟨h1, r, h2, h3⟩ := h
  exact (read_any h2 hbig).mono fun e w' ⟨A', c', he, k1, k2, k3⟩ => ⟨A', c', he, k1, k2, k3⟩

theorem safe_B {w : World} {B b : Nat} {s : DS} (h : DiskB w B b s) :
    Calls Tryd.prog 35 #[.pointer (some ⟨b, 0, none⟩)] w fun e w' => e = .returned (.int .i64 (s.safe : Int)) ∧ w = w' := by
  obtain ⟨h1, r, h2, h3⟩ := h
  exact safe_any h2

theorem Made.bsa {w w' : World} {A : Option Addr} {n c : Nat} {l : List UInt8} (h : Made w w' (.slice A n c) l) : BSA w' A c l := (own_bsa h.1).2.2

/-- Bytes that are laid out in a new block. -/
theorem lit_bsaD {w : World} {l : List UInt8} {fr : Nat × Nat} (h : l.length ≤ maxLen) : BSA (w.alloc (.cells (bytesV l).toArray 5 fr)) (some ⟨w.heap.size, 0, none⟩) l.length l :=
  ⟨Nat.le_refl _, h, (fun e => by cases e), fun ad e j hj => by
    cases e
    rw [add_plain]
    exact cell_at (heap_alloc_new _ _) (by simp [bytesV, hj])⟩

theorem DiskB.le {w : World} {B b : Nat} {s : DS} (h : DiskB w B b s) : s.safe ≤ s.p.length ∧ s.calls ≤ 9223372036854775807 := by
  obtain ⟨_, r, ⟨A, c, _, _, _, h4, h5, _⟩, _⟩ := h
  exact ⟨h4, h5⟩

end Go.Proofs.YtponofojildbmaaDoor
