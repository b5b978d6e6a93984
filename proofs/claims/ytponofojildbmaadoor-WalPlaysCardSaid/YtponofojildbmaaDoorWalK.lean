/- What WalKeeps wants: the plain law of a crash, and a log of the call's own. -/
import Derived.Test.YtponofojildbmaaDoorWalR
import Derived.Test.YtponofojildbmaaDoorLawWalScans
set_option linter.unusedVariables false
set_option linter.unusedSimpArgs false
namespace Go.Proofs.YtponofojildbmaaDoor
open Go.RowKit PrintLast

theorem allB_append (l m : List (List UInt8)) : allB (l ++ m) = allB l ++ allB m := by simp [allB]
theorem allB_split (ys : List (List UInt8)) (t : Nat) : allB ys = allB (ys.take t) ++ allB (ys.drop t) := by
  unfold allB
  rw [← List.flatMap_append, List.take_append_drop]
theorem cut_some (ys : List (List UInt8)) : ∀ j : Nat, (∀ x ∈ ys, x.length ≤ 1048576) → ∃ t, t ≤ ys.length ∧ scanB ((allB ys).take j) = (ys.take t, (allB (ys.take t)).length) ∧ (j ≤ (allB ys).length → (allB (ys.take t)).length ≤ j) := by
  induction ys with
  | nil =>
    intro j _
    refine ⟨0, Nat.le_refl _, ?_, fun _ => by simp [allB]⟩
    have e : (allB []).take j = [] := by simp [allB]
    rw [e, scanB_none (nextB_short (by decide))]
    rfl
  | cons y ys ih =>
    intro j hs
    have e : allB (y :: ys) = frameB y ++ allB ys := by simp [allB]
    have hy := hs y (by simp)
    by_cases hj : (frameB y).length ≤ j
    · obtain ⟨t, h1, h2, h3⟩ := ih (j - (frameB y).length) (fun x hx => hs x (by simp [hx]))
      have e1 : (allB (y :: ys)).take j = frameB y ++ (allB ys).take (j - (frameB y).length) := by
        rw [e, List.take_append, List.take_of_length_le hj]
      have e2 : allB ((y :: ys).take (t + 1)) = frameB y ++ allB (ys.take t) := by simp [allB]
      refine ⟨t + 1, by simp; omega, ?_, fun h => ?_⟩
      · rw [e1, scanB_some (next_frame y _ hy), List.drop_left' (frameB_length y), h2, e2, List.length_append, frameB_length]
        rfl
      · rw [e, List.length_append] at h
        rw [e2, List.length_append]
        have := h3 (by omega)
        omega
    · refine ⟨0, Nat.zero_le _, ?_, fun _ => by simp [allB]⟩
      rw [e, List.take_append_of_le_length (by omega), scanB_none (next_cut y j hy (by omega))]
      simp [allB]
theorem keeps_scan (zs ys : List (List UInt8)) (j : Nat) (hj : j ≤ (allB ys).length) (h1 : ∀ x ∈ zs, x.length ≤ 1048576) (h2 : ∀ x ∈ ys, x.length ≤ 1048576) :
    ∃ t, t ≤ ys.length ∧ scanB (allB zs ++ (allB ys).take j) = (zs ++ ys.take t, (allB (zs ++ ys.take t)).length) ∧ (allB zs ++ (allB ys).take j).take (allB (zs ++ ys.take t)).length = allB (zs ++ ys.take t) := by
  obtain ⟨t, a, b, c⟩ := cut_some ys j h2
  refine ⟨t, a, ?_, ?_⟩
  · rw [scan_frames _ _ h1, b, allB_append, List.length_append]
  · have hc := c hj
    rw [allB_append, List.length_append, List.take_append, List.take_of_length_le (by omega)]
    congr 1
    have e0 : (allB zs).length + (allB (ys.take t)).length - (allB zs).length = (allB (ys.take t)).length := by omega
    rw [e0, List.take_take, Nat.min_eq_left hc]
    conv => lhs; rw [allB_split ys t]
    exact List.take_left' rfl

theorem PartsAt.drop {w : World} {g : Nat} {ps : List Part} (h : PartsAt w (some ⟨g, 0, none⟩) ps) (k : Nat) : PartsAt w (some ⟨g, k, none⟩) (ps.drop k) :=
  ⟨(fun e => by cases e), fun ad e j hj => by
    cases e
    have hj' : k + j < ps.length := by rw [List.length_drop] at hj; omega
    have := h.2 _ rfl (k + j) hj'
    rw [add_plain] at this
    rw [add_at, List.getElem_drop]
    exact this⟩
theorem texts_drop (ps : List Part) (k : Nat) : texts (ps.drop k) = (texts ps).drop k := by simp [texts, List.map_drop]
theorem texts_take' (ps : List Part) (k : Nat) : texts (ps.take k) = (texts ps).take k := by simp [texts, List.map_take]

/-- A log whose blocks are all of the call's own. -/
def Kept (W wr : World) (b lg : Nat) (s : DS) (n : Nat) : Prop :=
  ∃ r, LogAt wr b r s lg n ∧ (W.heap.size ≤ b ∧ W.heap.size ≤ lg ∧ ∀ k, r = some k → W.heap.size ≤ k) ∧ Below W.heap.size W wr
theorem Kept.drew {W w : World} {b lg n : Nat} {s : DS} (h : Kept W w b lg s n) : Kept W w.drew b lg s n := by
  obtain ⟨r, h1, h2, h3⟩ := h
  have k : Keeps (fun _ => False) w w.drew := (Keeps.refl _ w).drew
  exact ⟨r, h1.keeps k (fun e => e) (fun _ _ e => e) (fun e => e), h2, h3.drew⟩
theorem Listed.form {w : World} {B c : Nat} {A : Option Addr} {ps : List Part} (h : Listed w B A c ps) : (A = none ∧ c = 0 ∧ ps.length = 0) ∨ ∃ g, A = some ⟨g, 0, none⟩ := by
  rcases h.1.2 with ⟨e, h0⟩ | ⟨g, cap, cur, e, _⟩
  · exact .inl ⟨(Value.slice.inj e).1, (Value.slice.inj e).2.2, h0⟩
  · exact .inr ⟨g, (Value.slice.inj e).1⟩
theorem Kept.table {W wr : World} {b lg n : Nat} {s : DS} (h : Kept W wr b lg s n) (hT : Table W) : Table wr := by
  obtain ⟨_, _, _, hb⟩ := h
  exact hT.below hb
theorem Kept.bel {W wr : World} {b lg n : Nat} {s : DS} (h : Kept W wr b lg s n) : Below W.heap.size W wr := by
  obtain ⟨_, _, _, hb⟩ := h
  exact hb
theorem Kept.below {W w w' : World} {b lg n : Nat} {s : DS} (h : Kept W w b lg s n) (hb : Below w.heap.size w w') : Kept W w' b lg s n := by
  obtain ⟨r, h1, h2, h3⟩ := h
  exact ⟨r, h1.below hb, h2, h3.trans (hb.mono h3.size)⟩
theorem below_of {S : Nat → Prop} {W w w' : World} (hB : Below W.heap.size W w) (hk : Keeps S w w') (hS : ∀ k, S k → W.heap.size ≤ k) : Below W.heap.size W w' :=
  hB.trans ⟨hk.os, hk.tape, hk.output, hk.size, fun k h => hk.block k (Nat.lt_of_lt_of_le h hB.size) (fun e => by have := hS k e; omega)⟩
theorem kept_append {W w : World} (hT : Table W) {b lg n : Nat} {s : DS} (h : Kept W w b lg s n) {A : Option Addr} {c : Nat} {p : List UInt8} (hp : BSA w A c p) (hb : p.length ≤ 1000000) (hs : s.p.length ≤ 100000000) (hn : n ≤ 100000000) :
    Calls Tryd.prog 28 #[.pointer (some ⟨lg, 0, none⟩), .slice A p.length c] w fun e w' => e = .returned (.int .i64 s.errno) ∧ Kept W w' b lg (s.append (frameB p)) (if s.ok then n + (8 + p.length) else n) := by
  obtain ⟨r, h1, h2, h3⟩ := h
  refine (append_log (hT.below h3) h1 hp hb hs hn).mono ?_
  rintro e w' ⟨rfl, r1, k1, k2, k3⟩
  refine ⟨rfl, r1, k1, ⟨h2.1, h2.2.1, fun k hk => ?_⟩, below_of h3 k3 (fun k hk => ?_)⟩
  · rcases k2 k hk with e | e
    · exact h2.2.2 k e
    · have := h3.size; omega
  · rcases hk with (e | e) | e
    · rw [e]; exact h2.1
    · exact h2.2.2 k e
    · rw [e]; exact h2.2.1
theorem kept_sync {W w : World} {b lg n : Nat} {s : DS} (h : Kept W w b lg s n) :
    Calls Tryd.prog 29 #[.pointer (some ⟨lg, 0, none⟩)] w fun e w' => e = .returned (.int .i64 s.errno) ∧ Kept W w' b lg s.sync n := by
  obtain ⟨r, h1, h2, h3⟩ := h
  refine (sync_log h1).mono ?_
  rintro e w' ⟨rfl, r1, k1, k2, k3⟩
  refine ⟨rfl, r1, k1, ⟨h2.1, h2.2.1, fun k hk => ?_⟩, below_of h3 k3 (fun k hk => ?_)⟩
  · rcases k2 k hk with e | e
    · exact h2.2.2 k e
    · have := h3.size; omega
  · rcases hk with e | e
    · rw [e]; exact h2.1
    · exact h2.2.2 k e

/-- A disk whose blocks are all of the call's own. -/
def KeptD (W wr : World) (b : Nat) (s : DS) : Prop := ∃ r, DiskAt wr b r s ∧ (W.heap.size ≤ b ∧ ∀ k, r = some k → W.heap.size ≤ k) ∧ Below W.heap.size W wr
theorem Kept.disk {W w : World} {b lg n : Nat} {s : DS} (h : Kept W w b lg s n) : KeptD W w b s := by
  obtain ⟨r, h1, h2, h3⟩ := h
  exact ⟨r, h1.1, ⟨h2.1, h2.2.2⟩, h3⟩
theorem kept_crash {W w : World} {b : Nat} {s : DS} (h : KeptD W w b s) {n : Int} (hn : -9223372036854775808 ≤ n ∧ n ≤ 9223372036854775807) (hbig : s.p.length ≤ 100000000) :
    Calls Tryd.prog 30 #[.pointer (some ⟨b, 0, none⟩), .int .i64 n] w fun e w' => e = .returned (.tuple #[]) ∧ KeptD W w' b (s.crash n) := by
  obtain ⟨r, h1, h2, h3⟩ := h
  refine (crash_any h1 hn (by omega)).mono ?_
  rintro e w' ⟨rfl, r1, k1, k2, k3⟩
  refine ⟨rfl, r1, k1, ⟨h2.1, fun k hk => ?_⟩, below_of h3 k3 (fun k hk => by rw [hk]; exact h2.1)⟩
  have := k2 k hk
  have := h3.size
  omega
/-- Open, of a disk that does not fail. -/
theorem kept_open {W w : World} (hT : Table W) {b : Nat} {s : DS} (h : KeptD W w b s) (hf : s.fails = false) (hbig : s.p.length ≤ 10000000) :
    Calls Tryd.prog 24 #[.pointer (some ⟨b, 0, none⟩)] w fun e w' => ∃ lg R c ps, e = .returned (.tuple #[.pointer (some ⟨lg, 0, none⟩), .slice R ps.length c, .int .i64 0]) ∧ Listed w' w.heap.size R c ps ∧ texts ps = (scanB s.p).1 ∧ Kept W w' b lg (opS s) (opN s) ∧ (∃ r0, DiskAt w b r0 s ∧ Keeps (Foot b r0) w w') ∧ ∀ r0 w'', DiskAt w' b r0 (opS s) → Keeps (Foot b r0) w' w'' → Listed w'' w.heap.size R c ps := by
  have hok : s.ok = true := by unfold DS.ok; rw [hf]; rfl
  have hE : opE s = 0 := by
    unfold opE DS.errno
    rw [hok]
    split <;> rfl
  obtain ⟨r, h1, h2, h3⟩ := h
  refine (open_at (hT.below h3) h1 hbig).mono ?_
  rintro e w' ⟨r1, k1, k2, k3, ⟨_, lg, R, c, ps, rfl, q1, q2, q3, q4, q5, q6, M, q7, q8⟩ | ⟨h9, _⟩⟩
  · have s1 := h3.size
    have hbw := h1.lt.1
    refine ⟨lg, R, c, ps, rfl, q1, q2, ⟨r1, ⟨k1, q3, q6, q5⟩, ⟨h2.1, by omega, fun k hk => ?_⟩, below_of h3 k3 (fun k hk => ?_)⟩, ⟨r, h1, k3⟩, fun r0 w'' d0 kk => q1.keepsM q7 kk (fun k hk => ?_)⟩
    · rcases k2 k hk with e | e
      · exact h2.2 k e
      · omega
    · rcases hk with e | e
      · rw [e]; exact h2.1
      · exact h2.2 k e
    · rcases hk with e | e
      · exact .inl (by omega)
      · exact q8 k ((k1.uniq d0).trans e)
  · rw [hE] at h9
    exact absurd h9 (by decide)
theorem new_kept {W w : World} (hB : Below W.heap.size W w) : Calls Tryd.prog 20 #[.slice none 0 0] w fun e w' => ∃ b, e = .returned (.pointer (some ⟨b, 0, none⟩)) ∧ KeptD W w' b ⟨[], 0, 0, false⟩ := by
  refine (new_any (BSA.nil w) (by simp)).mono ?_
  rintro e w' ⟨b, r, rfl, d, n1, n2, b1⟩
  have s1 := hB.size
  exact ⟨b, rfl, r, d, ⟨by omega, fun k hk => by have := n2 k hk; omega⟩, hB.trans (b1.mono s1)⟩
theorem read_kept {W w : World} {b : Nat} {s : DS} (h : KeptD W w b s) (hbig : s.p.length ≤ 100000000) :
    Calls Tryd.prog 27 #[.pointer (some ⟨b, 0, none⟩)] w fun e w' => ∃ A' c', e = .returned (.slice A' s.p.length c') ∧ Below w.heap.size w w' := by
  obtain ⟨r, h1, h2, h3⟩ := h
  refine (read_any h1 (by omega)).mono ?_
  rintro e w' ⟨A', c', rfl, _, _, b1⟩
  exact ⟨A', c', rfl, b1⟩
theorem size_kept {W w : World} {b lg n : Nat} {s : DS} (h : Kept W w b lg s n) : Calls Tryd.prog 26 #[.pointer (some ⟨lg, 0, none⟩)] w fun e w' => e = .returned (.int .i64 (n : Int)) ∧ w = w' := by
  obtain ⟨r, ⟨_, h1, _⟩, _⟩ := h
  have c1 := cell_at h1 (i := 1) (v := .int .i64 (n : Int)) rfl
  go_enter Tryd.func26, Tryd.ntmps26
  clear h1
  go_wp2
  go_ret
  exact ⟨rfl, rfl⟩
end Go.Proofs.YtponofojildbmaaDoor
