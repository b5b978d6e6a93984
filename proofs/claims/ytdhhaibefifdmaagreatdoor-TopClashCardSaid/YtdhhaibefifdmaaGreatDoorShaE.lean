/- The walk of write: more bytes; blocks are eaten as they come to be whole. -/
import Derived.Test.YtdhhaibefifdmaaGreatDoorShaD
import Derived.Deep.DeepCutAuto
set_option linter.unusedVariables false
set_option linter.unusedSimpArgs false
namespace Go.Proofs.YtdhhaibefifdmaaGreatDoor
open Go.RowKit PrintLast

theorem HashAt.cells {w : World} {b m c n : Nat} {R : Option Addr} {s : List UInt32} (h : HashAt w b s R m c n) : w.cell? ⟨b, 8, none⟩ = some (.slice R m c) ∧ w.cell? ⟨b, 9, none⟩ = some (.int .u64 (n : Int)) := by
  obtain ⟨h1, h2⟩ := h
  obtain ⟨a, b', c', d, e, f, g, i, rfl⟩ := eight h1
  exact ⟨cell_at h2 rfl, cell_at h2 rfl⟩
theorem HashAt.set8 {w : World} {b m c n : Nat} {R : Option Addr} {s : List UInt32} (h : HashAt w b s R m c n) (R' : Option Addr) (m' c' : Nat) : HashAt (w.setCell ⟨b, 8, none⟩ (.slice R' m' c')) b s R' m' c' n := by
  obtain ⟨h1, h2⟩ := h
  refine ⟨h1, ?_⟩
  obtain ⟨a, b', c', d, e, f, g, i, rfl⟩ := eight h1
  exact heap_set h2
theorem HashAt.set9 {w : World} {b m c n : Nat} {R : Option Addr} {s : List UInt32} (h : HashAt w b s R m c n) (n' : Nat) : HashAt (w.setCell ⟨b, 9, none⟩ (.int .u64 (n' : Int))) b s R m c n' := by
  obtain ⟨h1, h2⟩ := h
  refine ⟨h1, ?_⟩
  obtain ⟨a, b', c', d, e, f, g, i, rfl⟩ := eight h1
  exact heap_set h2
theorem BSA.take {w : World} {A : Option Addr} {c : Nat} {l : List UInt8} (h : BSA w A c l) (k : Nat) : BSA w A c (l.take k) :=
  ⟨by have := h.1; simp; omega, h.2.1, h.2.2.1, fun ad e j hj => by
    have hj' : j < l.length := by simp at hj; omega
    rw [List.getElem_take]
    exact h.2.2.2 ad e j hj'⟩
def waitLen (b : Nat) (w : World) : Nat := match w.cell? ⟨b, 8, none⟩ with
  | some (.slice _ m _) => m
  | _ => 0
theorem below_of_keeps {B : Nat} {S : Nat → Prop} {w w' : World} (hk : Keeps S w w') (hB : B ≤ w.heap.size) (hS : ∀ k, k < B → ¬ S k) : Below B w w' :=
  ⟨hk.os, hk.tape, hk.output, hk.size, fun k hk' => hk.block k (by omega) (hS k hk')⟩

set_option maxRecDepth 100000 in
set_option maxHeartbeats 1600000 in
theorem write_any {w : World} {B b c n c2 : Nat} {R A : Option Addr} {s : List UInt32} {l q : List UInt8} (hT : Table w) (hTB : 0 < B) (hB : B ≤ w.heap.size) (hb : B ≤ b) (h1 : HashAt w b s R l.length c n) (h2 : WaitAt w R c l) (h3 : ∀ ad, R = some ad → B ≤ ad.block)
    (hq : BSA w A c2 q) (hqb : ∀ ad, A = some ad → 0 < q.length → ad.block ≠ b) (hq1 : R = none ∨ q.length = 1) (hn : n + q.length ≤ 1152921504606846976) (hlq : l.length + q.length ≤ 140737488355328) :
    Calls Tryz.prog 40 #[.pointer (some ⟨b, 0, none⟩), .slice A q.length c2] w fun e w' => e = .returned (.tuple #[]) ∧ (∃ R' c', HashAt w' b (run s (l ++ q)).1 R' (run s (l ++ q)).2.length c' (n + q.length) ∧ WaitAt w' R' c' (run s (l ++ q)).2 ∧ (∀ ad, R' = some ad → B ≤ ad.block)) ∧ Below B w w' := by
  obtain ⟨x8, x9⟩ := h1.cells
  have f9 := free_at h1.2 9
  have f8 := free_at h1.2 8
  have a9 : ((n : Int) + (q.length : Int)) % 18446744073709551616 = (n : Int) + (q.length : Int) := by omega
  have aq : (q.length : Int) % 18446744073709551616 = (q.length : Int) := by omega
  have K1 := Keeps.set1 w b 9 (.int .u64 ((n : Int) + (q.length : Int)))
  have H1 : HashAt (w.setCell ⟨b, 9, none⟩ (.int .u64 ((n : Int) + (q.length : Int)))) b s R l.length c (n + q.length) := h1.set9 (n + q.length)
  have W1 := h2.keeps K1 (h2.other h1.2 (by decide))
  have Q1 := hq.keeps' K1 (fun ad e hl => hqb ad e hl)
  have hsz := K1.size
  have hRb := h2.other h1.2 (by decide)
  have T1 := hT.keeps K1 (by omega)
  have B1 := below_of_keeps K1 hB (fun k hk => by omega)
  go_enter Tryz.func40, Tryz.ntmps40
  go_wp2_with (refine wpList_appW rfl (.tmp 18) (.tmp 19) rfl R c l rfl W1 A c2 q rfl Q1 hq1 hlq ?_)
  intro R1 c1 w1 W2 K2 E2
  have nb : ¬ ∃ ad, R = some ad ∧ ad.block = b := fun ⟨ad, e, e'⟩ => hRb ad e e'
  have H2 := H1.keeps K2 nb
  obtain ⟨y8, y9⟩ := H2.cells
  have g8 := free_at H2.2 8
  have H3 := H2.set8 R1 (l.length + q.length) c1
  have K3 := Keeps.set1 w1 b 8 (.slice R1 (l.length + q.length) c1)
  have W3 := W2.keeps K3 (W2.other H2.2 (by decide))
  have hR3 : ∀ ad, R1 = some ad → B ≤ ad.block := fun ad e => by
    rcases E2 ad e with ⟨ad', e1, e2⟩ | e1
    · rw [← e2]; exact h3 ad' e1
    · omega
  have B2 : Below B w w1 := B1.trans (below_of_keeps K2 (by omega) (fun k hk => fun ⟨ad, e, e'⟩ => by have := h3 ad e; omega))
  have B3 := B2.trans (below_of_keeps K3 (Nat.le_trans hB B2.size) (fun k hk => by omega))
  have T3 : Table (w1.setCell ⟨b, 8, none⟩ (.slice R1 (l.length + q.length) c1)) := (T1.keeps K2 (fun ⟨ad, e, e'⟩ => by have := h3 ad e; omega)).keeps K3 (by omega)
  clear x8 x9 f9 f8 a9 aq K1 H1 W1 Q1 K2 E2 H2 W2 K3 B1 B2 T1 hq hqb hq1 h1 h2 h3 hT hRb nb hsz
  go_wp2
  generalize w1.setCell ⟨b, 8, none⟩ (.slice R1 (l.length + q.length) c1) = W0 at *
  clear y8 y9 g8
  go_loopw [] (fun wr => ∃ s' R' c' l', HashAt wr b s' R' l'.length c' (n + q.length) ∧ WaitAt wr R' c' l' ∧ (∀ ad, R' = some ad → B ≤ ad.block) ∧ run s' l' = run s (l ++ q) ∧ Table wr ∧ Below B w wr) (fun wr => waitLen b wr)
  case atStart => exact ⟨s, R1, c1, l ++ q, by simpa using H3, W3, hR3, rfl, T3, B3⟩
  case round =>
    clear H3 W3 hR3 T3 B3
    obtain ⟨s', R', c', l', hH, hW, hR, hrun0, hT, hBW⟩ := hrel
    have hrun := hid hrun0
    have hl' : l'.length ≤ 9223372036854775807 := hW.bsa.le
    have sB := hBW.size
    clear hrun0
    obtain ⟨z8, z9⟩ := hH.cells
    by_cases h64 : 64 ≤ l'.length
    · have t64 : decide ((64 : Int) ≤ (l'.length : Int)) = true := by simp; omega
      have hcc := hW.1
      have wr0 := hid (show waitLen b wr = l'.length by unfold waitLen; rw [z8])
      obtain ⟨g, off, rfl⟩ : ∃ g off, R' = some ⟨g, off, none⟩ := by
        rcases hW.2.2 with ⟨_, e⟩ | ⟨g, off, _, e, _⟩
        · omega
        · exact ⟨g, off, e⟩
      have hgb := hW.other hH.2 (by decide) _ rfl
      have EA := hid (eat_any hT hH (hW.bsa.take 64) (by simp; omega))
      go_wp2_with fail
      refine EA.out.mono ?_
      rintro e w6 ⟨rfl, H6, K6⟩
      have W6 := hW.keeps K6 (fun ad e => by cases e; exact hgb)
      have T6 := hT.keeps K6 (by omega)
      have B6 := hBW.trans (below_of_keeps K6 (Nat.le_trans hB sB) (fun k hk => by omega))
      have e6 := hrun.out
      rw [run_block h64] at e6
      have E6 := hid e6
      obtain ⟨y8, y9⟩ := H6.cells
      have f8 := free_at H6.2 8
      have hBg := hR _ rfl
      clear hT hH hW z8 z9 hBW EA hrun e6 hR
      by_cases hc64 : c' = 64
      · have H7 := H6.set8 (some ⟨g, off, none⟩) (l'.length - 64) 0
        have K7 := Keeps.set1 w6 b 8 (.slice (some ⟨g, off, none⟩) (l'.length - 64) 0)
        have W7 : WaitAt (w6.setCell ⟨b, 8, none⟩ (.slice (some ⟨g, off, none⟩) (l'.length - 64) 0)) (some ⟨g, off, none⟩) 0 (l'.drop 64) := by
          have hd : l'.drop 64 = [] := List.drop_eq_nil_of_le (by omega)
          rw [hd]
          obtain ⟨g', off', cur, e, h4, h5, h6⟩ := W6.2.2.resolve_left (fun e => by cases e.1)
          cases e
          exact ⟨Nat.le_refl _, by unfold maxLen; omega, .inr ⟨g, off, cur, rfl, K7.heap h4 hgb, by omega, fun j hj => by simp at hj⟩⟩
        have L7 := hid (show (l'.drop 64).length = l'.length - 64 by simp)
        have T7 := T6.keeps K7 (by omega)
        have B7 := B6.trans (below_of_keeps K7 (Nat.le_trans hB B6.size) (fun k hk => by omega))
        have wl := hid (show waitLen b (w6.setCell ⟨b, 8, none⟩ (.slice (some ⟨g, off, none⟩) (l'.length - 64) 0)) = l'.length - 64 by
          unfold waitLen; rw [H7.cells.1])
        subst hc64
        clear hcc
        go_wp2
        exact ⟨⟨_, _, _, l'.drop 64, by rw [L7.out]; exact H7, W7, (fun ad e => by cases e; exact hBg), E6.out, T7, B7⟩, by rw [wl.out, wr0.out]; omega⟩
      · have H7 := H6.set8 (some ⟨g, off + 64, none⟩) (l'.length - 64) (c' - 64)
        have K7 := Keeps.set1 w6 b 8 (.slice (some ⟨g, off + 64, none⟩) (l'.length - 64) (c' - 64))
        have W7 := (W6.drop 64 h64).keeps K7 (fun ad e => by cases e; exact hgb)
        have T7 := T6.keeps K7 (by omega)
        have B7 := B6.trans (below_of_keeps K7 (Nat.le_trans hB B6.size) (fun k hk => by omega))
        have L7 := hid (show (l'.drop 64).length = l'.length - 64 by simp)
        have wl := hid (show waitLen b (w6.setCell ⟨b, 8, none⟩ (.slice (some ⟨g, off + 64, none⟩) (l'.length - 64) (c' - 64))) = l'.length - 64 by
          unfold waitLen; rw [H7.cells.1])
        go_wp2
        exact ⟨⟨_, _, _, l'.drop 64, by rw [L7.out]; exact H7, W7, (fun ad e => by cases e; exact hBg), E6.out, T7, B7⟩, by rw [wl.out, wr0.out]; omega⟩
    · have t64 : decide ((64 : Int) ≤ (l'.length : Int)) = false := by simp; omega
      go_wp2
      go_end0
      have e := hrun.out
      rw [run_short (by omega)] at e
      rw [← e]
      exact ⟨rfl, ⟨R', c', hH, hW, hR⟩, hBW⟩
end Go.Proofs.YtdhhaibefifdmaaGreatDoor
