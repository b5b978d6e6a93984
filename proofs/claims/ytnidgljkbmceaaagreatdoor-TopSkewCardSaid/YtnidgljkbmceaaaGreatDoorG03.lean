/- The walk of write: more bytes; blocks are eaten as they come to be whole. -/
import Derived.Test.YtnidgljkbmceaaaGreatDoorG02
import Derived.Deep.DeepCutAuto
import Derived.Test.YtnidgljkbmceaaaGreatDoorG00
import Derived.Test.YtnidgljkbmceaaaGreatDoorChecked
import Derived.Test.YtnidgljkbmceaaaGreatDoorLast
import Derived.Outline
import Derived.WalkSpells
import Derived.WalkLawsBesides
import Derived.Lib.Builder
import Derived.Lib.UnsafeStr
import Derived.Lib.Strings
import Derived.Lib.Slices
import Derived.Laws.Externs
import Derived.Deep.CutBlock
import Derived.Laws.BitsAllLaws
set_option linter.unusedVariables false
set_option linter.unusedSimpArgs false
namespace Go.Proofs.YtnidgljkbmceaaaGreatDoor
open Go.RowKit PrintLast
theorem HashAt.cells {w : World} {b m c n : Nat} {R : Option Addr} {s : List UInt32} (h : HashAt w b s R m c n) : w.cell? ⟨b, 8, none⟩ = some (.slice R m c) ∧ w.cell? ⟨b, 9, none⟩ = some (.int .u64 (n : Int)) := by
  obtain ⟨h1, h2⟩ := h
  obtain ⟨a, b', c', d, e, f, g, i, rfl⟩ := eight h1
  exact ⟨cell_at h2 rfl, cell_at h2 rfl⟩
theorem HashAt.set8 {w : World} {b m c n : Nat} {R : Option Addr} {s : List UInt32} (h : HashAt w b s R m c n) (R' : Option Addr) (m' c' : Nat) : HashAt (w.setCell ⟨b, 8, none⟩ (.slice R' m' c')) b s R' m' c' n := by
  obtain ⟨h1, h2⟩ := h
  refine ⟨h1, ?_⟩
  obtain ⟨a, b', c', d, e, f, g, i, rfl⟩ := eight h1
  exact heap_set h2
theorem HashAt.set9 {w : World} {b m c n : Nat} {R : Option Addr} {s : List UInt32} (h : HashAt w b s R m c n) (n' : Nat) : HashAt (w.setCell ⟨b, 9, none⟩ (.int .u64 (n' : Int))) b s R m c n' := by
  obtain ⟨h1, h2⟩ := h
  refine ⟨h1, ?_⟩
  obtain ⟨a, b', c', d, e, f, g, i, rfl⟩ := eight h1
  exact heap_set h2
theorem BSA.take {w : World} {A : Option Addr} {c : Nat} {l : List UInt8} (h : BSA w A c l) (k : Nat) : BSA w A c (l.take k) :=
  ⟨by have := h.1; simp; omega, h.2.1, h.2.2.1, fun ad e j hj => by
    have hj' : j < l.length := by simp at hj; omega
    rw [List.getElem_take]
    exact h.2.2.2 ad e j hj'⟩
def waitLen (b : Nat) (w : World) : Nat := match w.cell? ⟨b, 8, none⟩ with
  | some (.slice _ m _) => m
  | _ => 0
theorem below_of_keeps {B : Nat} {S : Nat → Prop} {w w' : World} (hk : Keeps S w w') (hB : B ≤ w.heap.size) (hS : ∀ k, k < B → ¬ S k) : Below B w w' :=
  ⟨hk.os, hk.tape, hk.output, hk.size, fun k hk' => hk.block k (by omega) (hS k hk')⟩
set_option maxRecDepth 100000 in
set_option maxHeartbeats 1600000 in
theorem write_any {w : World} {B b c n c2 : Nat} {R A : Option Addr} {s : List UInt32} {l q : List UInt8} (hT : Table w) (hTB : 1 < B) (hB : B ≤ w.heap.size) (hb : B ≤ b) (h1 : HashAt w b s R l.length c n) (h2 : WaitAt w R c l) (h3 : ∀ ad, R = some ad → B ≤ ad.block)
    (hq : BSA w A c2 q) (hqb : ∀ ad, A = some ad → 0 < q.length → ad.block ≠ b) (hq1 : R = none ∨ q.length = 1) (hn : n + q.length ≤ 1152921504606846976) (hlq : l.length + q.length ≤ 140737488355328) :
    Calls Tryz.prog 59 #[.pointer (some ⟨b, 0, none⟩), .slice A q.length c2] w fun e w' => e = .returned (.tuple #[]) ∧ (∃ R' c', HashAt w' b (run s (l ++ q)).1 R' (run s (l ++ q)).2.length c' (n + q.length) ∧ WaitAt w' R' c' (run s (l ++ q)).2 ∧ (∀ ad, R' = some ad → B ≤ ad.block)) ∧ Below B w w' := by
  obtain ⟨x8, x9⟩ := h1.cells
  have f9 := free_at h1.2 9
  have f8 := free_at h1.2 8
  have a9 : ((n : Int) + (q.length : Int)) % 18446744073709551616 = (n : Int) + (q.length : Int) := by omega
  have aq : (q.length : Int) % 18446744073709551616 = (q.length : Int) := by omega
  have K1 := Keeps.set1 w b 9 (.int .u64 ((n : Int) + (q.length : Int)))
  have H1 : HashAt (w.setCell ⟨b, 9, none⟩ (.int .u64 ((n : Int) + (q.length : Int)))) b s R l.length c (n + q.length) := h1.set9 (n + q.length)
  have W1 := h2.keeps K1 (h2.other h1.2 (by decide))
  have Q1 := hq.keeps' K1 (fun ad e hl => hqb ad e hl)
  have hsz := K1.size
  have hRb := h2.other h1.2 (by decide)
  have T1 := hT.keeps K1 (by omega)
  have B1 := below_of_keeps K1 hB (fun k hk => by omega)
  go_enter Tryz.func59, Tryz.ntmps59
  go_wp2_with (refine wpList_appW rfl (.tmp 18) (.tmp 19) rfl R c l rfl W1 A c2 q rfl Q1 hq1 hlq ?_)
  intro R1 c1 w1 W2 K2 E2
  have nb : ¬ ∃ ad, R = some ad ∧ ad.block = b := fun ⟨ad, e, e'⟩ => hRb ad e e'
  have H2 := H1.keeps K2 nb
  obtain ⟨y8, y9⟩ := H2.cells
  have g8 := free_at H2.2 8
  have H3 := H2.set8 R1 (l.length + q.length) c1
  have K3 := Keeps.set1 w1 b 8 (.slice R1 (l.length + q.length) c1)
  have W3 := W2.keeps K3 (W2.other H2.2 (by decide))
  have hR3 : ∀ ad, R1 = some ad → B ≤ ad.block := fun ad e => by
    rcases E2 ad e with ⟨ad', e1, e2⟩ | e1
    · rw [← e2]; exact h3 ad' e1
    · omega
  have B2 : Below B w w1 := B1.trans (below_of_keeps K2 (by omega) (fun k hk => fun ⟨ad, e, e'⟩ => by have := h3 ad e; omega))
  have B3 := B2.trans (below_of_keeps K3 (Nat.le_trans hB B2.size) (fun k hk => by omega))
  have T3 : Table (w1.setCell ⟨b, 8, none⟩ (.slice R1 (l.length + q.length) c1)) := (T1.keeps K2 (fun ⟨ad, e, e'⟩ => by have := h3 ad e; omega)).keeps K3 (by omega)
  clear x8 x9 f9 f8 a9 aq K1 H1 W1 Q1 K2 E2 H2 W2 K3 B1 B2 T1 hq hqb hq1 h1 h2 h3 hT hRb nb hsz
  go_wp2
  generalize w1.setCell ⟨b, 8, none⟩ (.slice R1 (l.length + q.length) c1) = W0 at *
  clear y8 y9 g8
  go_loopw [] (fun wr => ∃ s' R' c' l', HashAt wr b s' R' l'.length c' (n + q.length) ∧ WaitAt wr R' c' l' ∧ (∀ ad, R' = some ad → B ≤ ad.block) ∧ run s' l' = run s (l ++ q) ∧ Table wr ∧ Below B w wr) (fun wr => waitLen b wr)
  case atStart => exact ⟨s, R1, c1, l ++ q, by simpa using H3, W3, hR3, rfl, T3, B3⟩
  case round =>
    clear H3 W3 hR3 T3 B3
    obtain ⟨s', R', c', l', hH, hW, hR, hrun0, hT, hBW⟩ := hrel
    have hrun := hid hrun0
    have hl' : l'.length ≤ 9223372036854775807 := hW.bsa.le
    have sB := hBW.size
    clear hrun0
    obtain ⟨z8, z9⟩ := hH.cells
    by_cases h64 : 64 ≤ l'.length
    · have t64 : decide ((64 : Int) ≤ (l'.length : Int)) = true := by simp; omega
      have hcc := hW.1
      have wr0 := hid (show waitLen b wr = l'.length by unfold waitLen; rw [z8])
      obtain ⟨g, off, rfl⟩ : ∃ g off, R' = some ⟨g, off, none⟩ := by
        rcases hW.2.2 with ⟨_, e⟩ | ⟨g, off, _, e, _⟩
        · omega
        · exact ⟨g, off, e⟩
      have hgb := hW.other hH.2 (by decide) _ rfl
      have EA := hid (eat_any hT hH (hW.bsa.take 64) (by simp; omega))
      go_wp2_with fail
      refine EA.out.mono ?_
      rintro e w6 ⟨rfl, H6, K6⟩
      have W6 := hW.keeps K6 (fun ad e => by cases e; exact hgb)
      have T6 := hT.keeps K6 (by omega)
      have B6 := hBW.trans (below_of_keeps K6 (Nat.le_trans hB sB) (fun k hk => by omega))
      have e6 := hrun.out
      rw [run_block h64] at e6
      have E6 := hid e6
      obtain ⟨y8, y9⟩ := H6.cells
      have f8 := free_at H6.2 8
      have hBg := hR _ rfl
      clear hT hH hW z8 z9 hBW EA hrun e6 hR
      by_cases hc64 : c' = 64
      · have H7 := H6.set8 (some ⟨g, off, none⟩) (l'.length - 64) 0
        have K7 := Keeps.set1 w6 b 8 (.slice (some ⟨g, off, none⟩) (l'.length - 64) 0)
        have W7 : WaitAt (w6.setCell ⟨b, 8, none⟩ (.slice (some ⟨g, off, none⟩) (l'.length - 64) 0)) (some ⟨g, off, none⟩) 0 (l'.drop 64) := by
          have hd : l'.drop 64 = [] := List.drop_eq_nil_of_le (by omega)
          rw [hd]
          obtain ⟨g', off', cur, e, h4, h5, h6⟩ := W6.2.2.resolve_left (fun e => by cases e.1)
          cases e
          exact ⟨Nat.le_refl _, by unfold maxLen; omega, .inr ⟨g, off, cur, rfl, K7.heap h4 hgb, by omega, fun j hj => by simp at hj⟩⟩
        have L7 := hid (show (l'.drop 64).length = l'.length - 64 by simp)
        have T7 := T6.keeps K7 (by omega)
        have B7 := B6.trans (below_of_keeps K7 (Nat.le_trans hB B6.size) (fun k hk => by omega))
        have wl := hid (show waitLen b (w6.setCell ⟨b, 8, none⟩ (.slice (some ⟨g, off, none⟩) (l'.length - 64) 0)) = l'.length - 64 by
          unfold waitLen; rw [H7.cells.1])
        subst hc64
        clear hcc
        go_wp2
        exact ⟨⟨_, _, _, l'.drop 64, by rw [L7.out]; exact H7, W7, (fun ad e => by cases e; exact hBg), E6.out, T7, B7⟩, by rw [wl.out, wr0.out]; omega⟩
      · have H7 := H6.set8 (some ⟨g, off + 64, none⟩) (l'.length - 64) (c' - 64)
        have K7 := Keeps.set1 w6 b 8 (.slice (some ⟨g, off + 64, none⟩) (l'.length - 64) (c' - 64))
        have W7 := (W6.drop 64 h64).keeps K7 (fun ad e => by cases e; exact hgb)
        have T7 := T6.keeps K7 (by omega)
        have B7 := B6.trans (below_of_keeps K7 (Nat.le_trans hB B6.size) (fun k hk => by omega))
        have L7 := hid (show (l'.drop 64).length = l'.length - 64 by simp)
        have wl := hid (show waitLen b (w6.setCell ⟨b, 8, none⟩ (.slice (some ⟨g, off + 64, none⟩) (l'.length - 64) (c' - 64))) = l'.length - 64 by
          unfold waitLen; rw [H7.cells.1])
        go_wp2
        exact ⟨⟨_, _, _, l'.drop 64, by rw [L7.out]; exact H7, W7, (fun ad e => by cases e; exact hBg), E6.out, T7, B7⟩, by rw [wl.out, wr0.out]; omega⟩
    · have t64 : decide ((64 : Int) ≤ (l'.length : Int)) = false := by simp; omega
      go_wp2
      go_end0
      have e := hrun.out
      rw [run_short (by omega)] at e
      rw [← e]
      exact ⟨rfl, ⟨R', c', hH, hW, hR⟩, hBW⟩
theorem infoBld : (Tryz.prog.info? 203).map (·.size) = some 2 := by kernel_rfl
theorem liesBld : liesAt Tryz.prog Tryz.prog.depth 203 (2 / Tryz.prog.cellsOf 203) 0 203 1 = true := by kernel_rfl
theorem infB : (Tryz.prog.info? 5).map (fun i => (i.zero, i.size, i.bytes)) = some (some (.int .u8 0), 1, 1) := by kernel_rfl
set_option maxRecDepth 100000 in
theorem check_used (b : Nat) (w : World) (h0 : w.cell? ⟨b, 0, none⟩ = some (.pointer (some ⟨b, 0, none⟩))) :
    Calls Tryz.prog 163 #[.pointer (some ⟨b, 0, none⟩)] w fun e w' => e = .returned (.tuple #[]) ∧ w' = w := by
  obtain ⟨j, hj, _⟩ := Option.map_eq_some_iff.1 infoBld
  go_enter Tryz.func163, Tryz.ntmps163
  go_wp2
  rw [Lib.run_neq_ptr_same w _ Tryz.underlying201 hj]
  go_wp2
  go_end0
  exact ⟨rfl, rfl⟩
set_option maxRecDepth 100000 in
theorem check_fresh (b : Nat) (w : World) (h0 : w.cell? ⟨b, 0, none⟩ = some (.pointer none)) (hsh : w.shape? b = some (203, 2)) (hfz : w.frozen? ⟨b, 0, none⟩ = false) :
    Calls Tryz.prog 163 #[.pointer (some ⟨b, 0, none⟩)] w fun e w' => e = .returned (.tuple #[]) ∧ w' = w.setCell ⟨b, 0, none⟩ (.pointer (some ⟨b, 0, none⟩)) := by
  obtain ⟨j, hj, hjs⟩ := Option.map_eq_some_iff.1 infoBld
  go_enter Tryz.func163, Tryz.ntmps163
  go_wp2
  rw [Lib.run_to_unsafe w ⟨b, 0, none⟩ Tryz.underlying201 Tryz.underlying212 hj (by rw [hjs]; decide) hsh (Nat.zero_lt_succ 1)]
  simp only [Result.andThen]
  rw [Oper.upon_value]
  go_wp2
  rw [run_callFunc_extern Tryz.func206 (by kernel_rfl) (by kernel_rfl) (by kernel_rfl) (e := Extern.AbiNoEscape.same) (by kernel_rfl)]
  rw [Lib.run_noEscape]
  simp only [Result.andThen]
  rw [Oper.upon_value]
  go_wp2
  rw [Lib.run_from_unsafe w ⟨b, 0, none⟩ Tryz.underlying212 Tryz.underlying201 hj hsh liesBld]
  simp only [Result.andThen]
  rw [Oper.upon_value]
  go_wp2
  go_end0
  exact ⟨rfl, rfl⟩
abbrev IsB (B b : Nat) (l : List UInt8) (w : World) : Prop := Lib.IsBuilder 203 5 B b (bytesV l) w
theorem check_any (B b : Nat) (l : List UInt8) (w : World) (h : IsB B b l w) :
    Calls Tryz.prog 163 #[.pointer (some ⟨b, 0, none⟩)] w fun e w' => e = .returned (.tuple #[]) ∧ (Lib.BuilderAt 203 5 B b (.pointer (some ⟨b, 0, none⟩)) (bytesV l) w' ∧ Below B w w') := by
  rcases h with h | h
  · refine (check_fresh b w h.cell0 h.shape h.frozen0).mono ?_
    rintro e w' ⟨rfl, rfl⟩
    exact ⟨rfl, h.used _, (Below.refl B w).setCell (p := ⟨b, 0, none⟩) h.1 _⟩
  · refine (check_used b w h.cell0).mono ?_
    rintro e w' ⟨rfl, rfl⟩
    exact ⟨rfl, h, Below.refl B _⟩
set_option maxHeartbeats 2000000 in
set_option maxRecDepth 100000 in
theorem writeByte_any (B b : Nat) (l : List UInt8) (x : UInt8) (w : World) (h : IsB B b l w) (hlen : l.length + 1 ≤ 140737488355328) (hBw : B ≤ w.heap.size) :
    Calls Tryz.prog 106 #[.pointer (some ⟨b, 0, none⟩), .int .u8 (x.toNat : Int)] w fun e w' => e = .returned .nilIface ∧ IsB B b (l ++ [x]) w' ∧ Below B w w' := by
  obtain ⟨i0, hi, hz0, hz1, hz2⟩ := info_parts infB
  have HC := hid (check_any B b l w h)
  clear h
  go_enter Tryz.func106, Tryz.ntmps106
  go_wp2_with fail
  refine HC.out.mono ?_
  rintro e w1 ⟨rfl, h1, hb1⟩
  obtain ⟨hB, v, hbk, hown, hne⟩ := h1
  have c0 : w1.cell? ⟨b, 0, none⟩ = some (.pointer (some ⟨b, 0, none⟩)) := by rw [Lib.cell_of_heap hbk]; rfl
  have c1 : w1.cell? ⟨b, 1, none⟩ = some v := by rw [Lib.cell_of_heap hbk]; rfl
  go_wp2_with (at_builtin; refine wpList_append_own _ rfl _ _ 36 rfl B 5 i0 (.int .u8 0) 1 1 Tryz.underlying36 hi hz0 hz1 hz2 rfl (by decide) _ _ _ rfl (hown.alloc _) ⟨w1.heap.size, 0, none⟩ 1 1 [.int .u8 (x.toNat : Int)] rfl rfl ?c1 ?c2 ?c3 ?c4 ?c5 ?_)
  case c1 =>
    intro j u hj
    match j, hj with
    | 0, hj => simp at hj; subst hj; simp [Addr.add]
  case c2 => intro u hu; simp at hu; subst hu; rfl
  case c3 => unfold maxLen; rw [bytesV_length]; omega
  case c4 => rw [bytesV_length]; omega
  case c5 => have := hb1.size; simp; omega
  intro v' w2 hown' hgrow _
  have hlt : b < w1.heap.size := lt_of_block hbk
  have hb2 : w2.heap[b]? = some (.cells #[.pointer (some ⟨b, 0, none⟩), v] 203 (0, 0)) := by
    rw [hgrow.block b (by simp; omega) (fun e => hne e.symm), Lib.alloc_old w1 _ b hlt]
    exact hbk
  have d0 : w2.cell? ⟨b, 0, none⟩ = some (.pointer (some ⟨b, 0, none⟩)) := by rw [Lib.cell_of_heap hb2]; rfl
  have d1 : w2.cell? ⟨b, 1, none⟩ = some v := by rw [Lib.cell_of_heap hb2]; rfl
  have f1 : w2.frozen? ⟨b, 1, none⟩ = false := Lib.frozen_of_heap hb2 1
  obtain ⟨g, cap, rfl⟩ : ∃ g cap, v' = .slice (some ⟨g, 0, none⟩) (l.length + 1) cap := by
    rcases hown'.2 with ⟨_, h0⟩ | ⟨g, cap, cur, hv, _⟩
    · omega
    · rw [bytesV_length] at hv; exact ⟨g, cap, hv⟩
  go_wp2
  go_ret
  refine ⟨rfl, .inr ?_, ?_⟩
  · refine Lib.BuilderAt.put (T := 203) (e := 5) hB hb2 (bs' := bytesV (l ++ [x])) ?_ (by decide)
    rw [bytesV_append]
    simpa [bytesV] using hown'
  · exact ((hb1.alloc (by have := hb1.size; omega) _).grown hgrow (by have := hb1.size; simp; omega) (fun k hk => (hown.lt k hk).1)).setCell (p := ⟨b, 1, none⟩) hB _
set_option maxHeartbeats 1000000 in
set_option maxRecDepth 100000 in
theorem string_some (B b : Nat) (l : List UInt8) (w : World) (h : IsB B b l w) (h0 : l ≠ []) :
    Calls Tryz.prog 107 #[.pointer (some ⟨b, 0, none⟩)] w fun e w' => e = .returned (.string ⟨l.toArray⟩) ∧ Below B w w' := by
  obtain ⟨p, hB, v, hbk, hown, hne⟩ : ∃ p, Lib.BuilderAt 203 5 B b p (bytesV l) w := by
    rcases h with h | h
    · exact ⟨_, h⟩
    · exact ⟨_, h⟩
  have hl0 : l.length ≠ 0 := by simpa using h0
  rw [bytesV_length] at hown
  obtain ⟨g, cap, cur, rfl, hbg, hg, hnc, hcm, hcs, htake⟩ : ∃ g cap cur, v = .slice (some ⟨g, 0, none⟩) l.length cap ∧ B ≤ g ∧ w.heap[g]? = some (.cells cur 5 (0, 0)) ∧ l.length ≤ cap ∧ cap ≤ maxLen ∧ cur.size = cap * 1 ∧ cur.toList.take (l.length * 1) = bytesV l := by
    rcases hown.2 with ⟨_, hz⟩ | ⟨g, cap, cur, hv, r⟩
    · exact absurd hz hl0
    · exact ⟨g, cap, cur, hv, r⟩
  have c1 : w.drew.cell? ⟨b, 1, none⟩ = some (.slice (some ⟨g, 0, none⟩) l.length cap) := by
    have : w.drew.heap[b]? = some (.cells #[p, .slice (some ⟨g, 0, none⟩) l.length cap] 203 (0, 0)) := hbk
    rw [Lib.cell_of_heap this]; rfl
  have hSD : (Builtin.unsafeSliceData_ #[36] 270 #[.slice (some ⟨g, 0, none⟩) l.length cap]).run Tryz.prog w.drew = .ok (.pointer (some ⟨g, 0, none⟩)) w.drew :=
    Lib.run_unsafeSliceData_row _ _ _ _ _ _ (by omega)
  have hUS : (Builtin.unsafeString_ #[270, 3] 9 #[.pointer (some ⟨g, 0, none⟩), .int .i64 l.length]).run Tryz.prog w.drew = .ok (.string ⟨l.toArray⟩) (w.drew.freeze ⟨g, 0, none⟩ l.length) := by
    refine Lib.run_unsafeString_row w.drew 270 3 9 5 Tryz.underlying270 (by kernel_rfl) g cur.size (by have hg' : w.drew.heap[g]? = some (.cells cur 5 (0, 0)) := hg; simp [World.shape?, hg']) l h0 (by omega) (by unfold maxLen at hcm; omega) ?_
    intro j x hx
    have := hown.cells (g := g) rfl j (.int .u8 x.toNat) (by simp [bytesV, hx])
    exact this
  clear h hown htake hbk hne h0
  go_enter Tryz.func107, Tryz.ntmps107
  go_wp2
  go_region
  all_goals (go_wp2; go_ret; exact ⟨rfl, Lib.below_freeze (Below.drew (Below.refl B w)) (p := ⟨g, 0, none⟩) hbg _⟩)
def HasT (w : World) (B b : Nat) (t : List UInt8) : Prop := B ≤ b ∧ ∃ R c, HashAt w b (run first t).1 R (run first t).2.length c t.length ∧ WaitAt w R c (run first t).2 ∧ ∀ ad, R = some ad → B ≤ ad.block
theorem HasT.below {w w' : World} {B b : Nat} {t : List UInt8} (h : HasT w B b t) (hb : Below w.heap.size w w') : HasT w' B b t := by
  obtain ⟨h1, R, c, h2, h3, h4⟩ := h
  exact ⟨h1, R, c, h2.below hb, h3.below hb, h4⟩
theorem HasT.lt {w : World} {B b : Nat} {t : List UInt8} (h : HasT w B b t) : b < w.heap.size := by
  obtain ⟨h1, R, c, h2, _⟩ := h
  exact lt_of_block h2.2
theorem write_one {w : World} {B b c2 : Nat} {A : Option Addr} {t : List UInt8} {x : UInt8} (hT : Table w) (hTB : 1 < B) (hB : B ≤ w.heap.size) (h : HasT w B b t) (hq : BSA w A c2 [x]) (hqb : ∀ ad, A = some ad → ad.block ≠ b) (hn : t.length ≤ 140737488355328) :
    Calls Tryz.prog 59 #[.pointer (some ⟨b, 0, none⟩), .slice A 1 c2] w fun e w' => e = .returned (.tuple #[]) ∧ HasT w' B b (t ++ [x]) ∧ Below B w w' := by
  obtain ⟨h1, R, c, h2, h3, h4⟩ := h
  have hl := run_rest_length first t
  refine (write_any hT hTB hB h1 h2 h3 h4 hq (fun ad e _ => hqb ad e) (.inr rfl) (by simp; omega) (by rw [hl]; simp; omega)).mono ?_
  rintro e w' ⟨he, ⟨R', c', k1, k2, k3⟩, k4⟩
  rw [← run_append] at k1 k2
  exact ⟨he, ⟨h1, R', c', by simpa using k1, k2, k3⟩, k4⟩
theorem fresh_any {w : World} : Calls Tryz.prog 58 #[] w fun e w' => e = .returned (.pointer (some ⟨w.heap.size, 0, none⟩)) ∧ HashAt w' w.heap.size first none 0 0 0 ∧ Below w.heap.size w w' := by
  go_enter Tryz.func58, Tryz.ntmps58
  go_wp2
  go_ret
  exact ⟨rfl, ⟨rfl, heap_alloc_new w _⟩, below_alloc (Below.refl _ w) _⟩
theorem index8 {w : World} (l : List UInt32) (hl : l.length = 8) (k : Nat) (hk : k < 8) : (Instr.index 197 (.agg (u32s l)) (.int .i64 (k : Int))).run Tryz.prog w = .ok (.int .u32 ((l.getD k 0).toNat : Int)) w := by
  obtain ⟨j, hj, hs⟩ := Option.map_eq_some_iff.1 infoU32
  exact run_index_words Tryz.underlying197 (by kernel_rfl) hj hs l hl k hk
theorem byte_of (n m : Nat) : ((n : Int) / 2 ^ m) % 256 = ((UInt8.ofNat (n / 2 ^ m)).toNat : Int) := by
  rw [UInt8.toNat_ofNat']
  simp
theorem one_bsa (w : World) (x : UInt8) : BSA (w.alloc (.cells #[.int .u8 (x.toNat : Int)] 5)) (some ⟨w.heap.size, 0, none⟩) 1 [x] := by
  refine ⟨by simp, by unfold maxLen; omega, (fun e => by cases e), fun ad e j hj => ?_⟩
  cases e
  have hj0 : j = 0 := by simp at hj; omega
  subst hj0
  rw [add_plain]
  exact cell_at (heap_alloc_new w _) rfl
theorem write_lit {w : World} {B b : Nat} {t : List UInt8} (x : UInt8) (hT : Table w) (hTB : 1 < B) (hB : B ≤ w.heap.size) (h : HasT w B b t) (hn : t.length ≤ 140737488355328) :
    Calls Tryz.prog 59 #[.pointer (some ⟨b, 0, none⟩), .slice (some ⟨w.heap.size, 0, none⟩) 1 1] (w.alloc (.cells #[.int .u8 (x.toNat : Int)] 5)) fun e w' => e = .returned (.tuple #[]) ∧ HasT w' B b (t ++ [x]) ∧ Table w' ∧ Below B w w' := by
  have hb := below_alloc (Below.refl _ w) (.cells #[.int .u8 (x.toNat : Int)] 5)
  have hbl := h.lt
  refine (write_one (hT.below hb) hTB (Nat.le_trans hB hb.size) (h.below hb) (one_bsa w x) (fun ad e => by cases e; show w.heap.size ≠ b; omega) hn).mono ?_
  rintro e w' ⟨he, k1, k2⟩
  have hB' := (hb.mono hB).trans k2
  exact ⟨he, k1, hT.keeps (Keeps.mono (S := fun k => B ≤ k) ⟨hB'.os, hB'.tape, hB'.output, hB'.size, fun k _ hk => hB'.block k (by omega)⟩ (fun _ _ e => e)) (by omega), hB'⟩
def countOf (b : Nat) (w : World) : Nat := match w.cell? ⟨b, 9, none⟩ with
  | some (.int _ n) => n.toNat
  | _ => 0
theorem eightBytes_get (n j : Nat) (hj : j < 8) : (eightBytes n).take (j + 1) = (eightBytes n).take j ++ [UInt8.ofNat (n / 2 ^ (56 - 8 * j))] := by
  rw [List.take_succ_eq_append_getElem (by simp [eightBytes]; omega)]
  congr 2
  simp only [eightBytes, List.getElem_map, List.getElem_range]
  congr 3
  omega
theorem fourBytes_get (x : UInt32) (j : Nat) (hj : j < 4) : (fourBytes x).take (j + 1) = (fourBytes x).take j ++ [UInt8.ofNat (x.toNat / 2 ^ (24 - 8 * j))] := by
  rw [List.take_succ_eq_append_getElem (by simp [fourBytes]; omega)]
  congr 2
  simp only [fourBytes, List.getElem_map, List.getElem_range]
  congr 3
  omega
theorem bytesOf_next (s : List UInt32) (k : Nat) (hk : k < s.length) : bytesOf (s.take (k + 1)) = bytesOf (s.take k) ++ fourBytes (s.getD k 0) := by
  have e : s.getD k 0 = s[k] := by simp [List.getD_eq_getElem?_getD, hk]
  rw [List.take_succ_eq_append_getElem hk, e]
  unfold bytesOf
  rw [List.flatMap_append]
  simp only [List.flatMap_cons, List.flatMap_nil, List.append_nil]
theorem bytesOf_length (s : List UInt32) : (bytesOf s).length = 4 * s.length := by
  induction s with
  | nil => rfl
  | cons x s ih =>
    have : bytesOf (x :: s) = fourBytes x ++ bytesOf s := rfl
    rw [this, List.length_append, ih, fourBytes_length, List.length_cons]
    omega
set_option maxRecDepth 100000 in
set_option maxHeartbeats 3200000 in
theorem end_any {w : World} {B b : Nat} {p : List UInt8} (hT : Table w) (hTB : 1 < B) (hB : B ≤ w.heap.size) (h : HasT w B b p) (hn : p.length ≤ 1000000000000) :
    Calls Tryz.prog 60 #[.pointer (some ⟨b, 0, none⟩)] w fun e w' => e = .returned (.string ⟨(sum256 p).toArray⟩) ∧ Below B w w' := by
  obtain ⟨_, R0, c0, h2, _⟩ := id h
  obtain ⟨x8, x9⟩ := h2.cells
  have a8 : ((p.length : Int) * 8) % 18446744073709551616 = (p.length : Int) * 8 := by omega
  have HW := hid (write_lit 128 hT hTB hB h (by omega))
  obtain ⟨res, hres⟩ : ∃ r, r = sum256 p := ⟨_, rfl⟩
  rw [← hres]
  have HRES := hid hres
  have hN := hid (noughts_spec p.length)
  have hM := hid (noughts_min p.length)
  obtain ⟨nn, hnn⟩ : ∃ n, n = noughts p.length := ⟨_, rfl⟩
  rw [← hnn] at hN hM
  have HNN := hid hnn
  have hn64 : nn ≤ 64 := by rw [hnn]; unfold noughts; omega
  clear h2 h hT hres hnn
  go_enter Tryz.func60, Tryz.ntmps60
  go_wp2_with fail
  refine HW.out.mono ?_
  rintro e w1 ⟨rfl, h1, T1, B1⟩
  clear HW x8 x9 a8
  go_wp2
  go_loopw [] (fun wr => ∃ k : Nat, k ≤ nn ∧ HasT wr B b (p ++ [128] ++ List.replicate k 0) ∧ Table wr ∧ Below B w wr) (fun wr => p.length + 1 + nn - countOf b wr)
  case atStart => exact ⟨0, Nat.zero_le _, by simpa using h1, T1, B1⟩
  case round =>
    clear h1 T1 B1
    obtain ⟨k, hk, hH, hT, hBW⟩ := hrel
    obtain ⟨_, R, c, h2, _⟩ := id hH
    rw [run_rest_length] at h2
    obtain ⟨x8, x9⟩ := h2.cells
    have tl : (p ++ [128] ++ List.replicate k (0 : UInt8)).length = p.length + 1 + k := by simp; omega
    rw [tl] at x8 x9
    have cnt0 := hid (show countOf b wr = p.length + 1 + k by unfold countOf; rw [x9]; simp; omega)
    obtain ⟨m, hm⟩ : ∃ m, m = (p.length + 1 + k) % 64 := ⟨_, rfl⟩
    rw [← hm] at x8
    have hm' := hid hm
    have sB := Nat.le_trans hB hBW.size
    have HH := hid hH
    clear h2 tl hm x9 hH
    by_cases h56 : m = 56
    · have hk2 : k = nn := by have := hM.out k (by have := hm'.out; omega); omega
      have HQ := HH.out
      rw [hk2] at HQ
      have t56 : ((m : Int) != 56) = false := by simp; omega
      obtain ⟨q, hq⟩ : ∃ q, q = p ++ [128] ++ List.replicate nn (0 : UInt8) := ⟨_, rfl⟩
      rw [← hq] at HQ
      have HQE := hid hq
      have ql : q.length = p.length + 1 + nn := by rw [hq]; simp; omega
      clear hk HH hq hk2 hm' cnt0 hM hN
      go_wp2
      go_loopw [4] (fun i wx => ∃ (j : Nat) (y : Int), j ≤ 8 ∧ Hid (y = 56 - 8 * (j : Int)) ∧ i = .int .i64 y ∧ HasT wx B b (q ++ (eightBytes (8 * p.length)).take j) ∧ Table wx ∧ Below B w wx) (fun i _ => (intOf i + 8).toNat)
      case atStart => exact ⟨0, 56, by omega, hid (by omega), rfl, by simpa using HQ, hT, hBW⟩
      case round =>
        clear HQ hT hBW sB x8 t56 h56 m
        obtain ⟨j, y, hj, hy, rfl, hH, hT, hBW⟩ := hrel
        have sB := Nat.le_trans hB hBW.size
        by_cases h8 : j < 8
        · obtain ⟨m, hm⟩ : ∃ m, m = 56 - 8 * j := ⟨_, rfl⟩
          obtain rfl : y = (m : Int) := by have := hy.out; omega
          have hm56 : m ≤ 56 := by omega
          have hm64 : m < 64 := by omega
          have G1 := eightBytes_get (8 * p.length) j h8
          rw [← hm] at G1
          have Bf := byte_of (8 * p.length) m
          rw [show (((8 * p.length : Nat) : Int)) = (p.length : Int) * 8 by omega] at Bf
          obtain ⟨xb, hxb⟩ : ∃ x, x = UInt8.ofNat (8 * p.length / 2 ^ m) := ⟨_, rfl⟩
          rw [← hxb] at G1 Bf
          have el : (eightBytes (8 * p.length)).length = 8 := by simp [eightBytes]
          have HW := hid (write_lit xb hT hTB sB hH (by rw [List.length_append, List.length_take, ql]; omega))
          have HG := hid G1
          have Hj : Hid ((m : Int) - 8 = 56 - 8 * ((j + 1 : Nat) : Int)) := hid (by have := hy.out; omega)
          have w8 : wrap64 ((m : Int) - 8) = (m : Int) - 8 := by unfold wrap64; omega
          clear hm hxb G1 hH hT hy
          go_wp2_with fail
          refine HW.out.mono ?_
          rintro e w2 ⟨rfl, h2, T2, B2⟩
          rw [List.append_assoc, ← HG.out] at h2
          go_wp2
          exact ⟨⟨j + 1, (m : Int) - 8, by omega, Hj, by simp, h2, T2, hBW.trans B2⟩, by simp [intOf]; omega⟩
        · obtain rfl : j = 8 := by omega
          obtain rfl : y = -8 := by have := hy.out; omega
          have eP : q ++ (eightBytes (8 * p.length)).take 8 = padded p := by
            rw [HQE.out, List.take_of_length_le (by simp [eightBytes])]
            unfold padded
            rw [← HNN.out]
          rw [eP] at hH
          obtain ⟨_, R1, c1, h2, _⟩ := id hH
          have lF : (run first (padded p)).1.length = 8 := run_length rfl _
          obtain ⟨FF, hFF⟩ : ∃ f, f = (run first (padded p)).1 := ⟨_, rfl⟩
          rw [← hFF] at h2 lF
          have hR2 : res = bytesOf FF := by rw [HRES.out, hFF]; rfl
          have HR2 := hid hR2
          clear hR2 hFF eP hy hT
          have hb2 := below_alloc (Below.refl _ wr) (.cells #[.pointer none, .slice none 0 0] 203)
          have h3 := h2.below hb2
          have IB0 := Lib.fresh_isBuilder 203 5 wr
          have hBW2 := hBW.alloc sB (.cells #[.pointer none, .slice none 0 0] 203)
          obtain ⟨s0, s1, s2, s3, s4, s5, s6, s7, rfl⟩ := eight lF
          have y0 := h3.cell 0 (by omega)
          have y1 := h3.cell 1 (by omega)
          have y2 := h3.cell 2 (by omega)
          have y3 := h3.cell 3 (by omega)
          have y4 := h3.cell 4 (by omega)
          have y5 := h3.cell 5 (by omega)
          have y6 := h3.cell 6 (by omega)
          have y7 := h3.cell 7 (by omega)
          simp only [List.getD_cons_zero, List.getD_cons_succ] at y0 y1 y2 y3 y4 y5 y6 y7
          obtain ⟨bb, hbb⟩ : ∃ b, b = wr.heap.size := ⟨_, rfl⟩
          have IB1 : IsB B bb (bytesOf ([s0, s1, s2, s3, s4, s5, s6, s7].take 0)) (wr.alloc (.cells #[.pointer none, .slice none 0 0] 203)) := by
            rw [hbb]
            rcases IB0 with ⟨_, k⟩ | ⟨_, k⟩
            · obtain ⟨v, k1, k2, k3⟩ := k
              refine .inl ⟨sB, v, k1, ⟨k2.1, ?_⟩, k3⟩
              rcases k2.2 with k2 | ⟨g, cap, cur, e, hb, r⟩
              · exact .inl k2
              · exact .inr ⟨g, cap, cur, e, Nat.le_trans sB hb, r⟩
            · obtain ⟨v, k1, k2, k3⟩ := k
              refine .inr ⟨sB, v, k1, ⟨k2.1, ?_⟩, k3⟩
              rcases k2.2 with k2 | ⟨g, cap, cur, e, hb, r⟩
              · exact .inl k2
              · exact .inr ⟨g, cap, cur, e, Nat.le_trans sB hb, r⟩
          clear IB0 h2 h3 hH
          obtain ⟨FF, hFF⟩ : ∃ f, f = [s0, s1, s2, s3, s4, s5, s6, s7] := ⟨_, rfl⟩
          have i0 : ∀ (k : Nat), k < 8 → ∀ w : World, (Instr.index 197 (.agg #[.int .u32 (s0.toNat : Int), .int .u32 (s1.toNat : Int), .int .u32 (s2.toNat : Int), .int .u32 (s3.toNat : Int), .int .u32 (s4.toNat : Int), .int .u32 (s5.toNat : Int), .int .u32 (s6.toNat : Int), .int .u32 (s7.toNat : Int)]) (.int .i64 (k : Int))).run Tryz.prog w = .ok (.int .u32 ((FF.getD k 0).toNat : Int)) w := fun k hk w => by
            rw [hFF]
            exact index8 [s0, s1, s2, s3, s4, s5, s6, s7] rfl k hk
          have I0 := hid i0
          have lF8 : FF.length = 8 := by rw [hFF]; rfl
          rw [← hFF] at IB1 HR2
          clear i0 hFF
          go_wp2
          rw [← hbb]
          clear y0 y1 y2 y3 y4 y5 y6 y7 hb2 hBW hbb
          go_loopw [41] (fun i wx => ∃ k : Nat, k ≤ 8 ∧ i = .int .i64 k ∧ IsB B bb (bytesOf (FF.take k)) wx ∧ Below B w wx) (fun i _ => 8 - (intOf i).toNat)
          case atStart => exact ⟨0, Nat.zero_le _, rfl, IB1, hBW2⟩
          case round =>
            clear IB1 hBW2
            obtain ⟨k, hk, rfl, hI, hBW⟩ := hrel
            have sB := Nat.le_trans hB hBW.size
            by_cases hlt : k < 8
            · have t8 : decide ((k : Int) < 8) = true := by simp; omega
              have ik := I0.out k hlt
              obtain ⟨x, hx⟩ : ∃ x, x = FF.getD k 0 := ⟨_, rfl⟩
              rw [← hx] at ik
              have HN := hid (bytesOf_next FF k (by omega))
              rw [← hx] at HN
              have lb : (bytesOf (FF.take k)).length ≤ 32 := by rw [bytesOf_length, List.length_take]; omega
              clear hx
              go_wp2
              go_loopw [8] (fun i wy => ∃ (j : Nat) (y : Int), j ≤ 4 ∧ Hid (y = 24 - 8 * (j : Int)) ∧ i = .int .i64 y ∧ IsB B bb (bytesOf (FF.take k) ++ (fourBytes x).take j) wy ∧ Below B w wy) (fun i _ => (intOf i + 8).toNat)
              case atStart => exact ⟨0, 24, by omega, hid (by omega), rfl, by simpa using hI, hBW⟩
              case round =>
                clear hI hBW sB ik
                obtain ⟨j, y, hj, hy, rfl, hI, hBW⟩ := hrel
                have sB := Nat.le_trans hB hBW.size
                by_cases h4 : j < 4
                · obtain ⟨m, hm⟩ : ∃ m, m = 24 - 8 * j := ⟨_, rfl⟩
                  obtain rfl : y = (m : Int) := by have := hy.out; omega
                  have hm24 : m ≤ 24 := by omega
                  have hm32 : m < 32 := by omega
                  have G1 := fourBytes_get x j h4
                  rw [← hm] at G1
                  have Bf := byte_of x.toNat m
                  obtain ⟨xb, hxb⟩ : ∃ z, z = UInt8.ofNat (x.toNat / 2 ^ m) := ⟨_, rfl⟩
                  rw [← hxb] at G1 Bf
                  have l4 := fourBytes_length x
                  have HW := hid (writeByte_any B bb _ xb wr hI (by rw [List.length_append, List.length_take]; omega) sB)
                  have HG := hid G1
                  have Hj : Hid ((m : Int) - 8 = 24 - 8 * ((j + 1 : Nat) : Int)) := hid (by have := hy.out; omega)
                  have w8 : wrap64 ((m : Int) - 8) = (m : Int) - 8 := by unfold wrap64; omega
                  clear hm hxb G1 hI hy
                  go_wp2_with fail
                  refine HW.out.mono ?_
                  rintro e w2 ⟨rfl, h2, B2⟩
                  rw [List.append_assoc, ← HG.out] at h2
                  go_wp2
                  go_roundw
                  case rel => exact ⟨j + 1, (m : Int) - 8, by omega, Hj, by simp, h2, hBW.trans B2⟩
                  case measure => simp [intOf]; omega
                · obtain rfl : j = 4 := by omega
                  obtain rfl : y = -8 := by have := hy.out; omega
                  have e4 : (fourBytes x).take 4 = fourBytes x := List.take_of_length_le (by rw [fourBytes_length]; exact Nat.le_refl _)
                  rw [e4, ← HN.out] at hI
                  clear e4
                  go_wp2
                  go_roundw
                  case rel => exact ⟨k + 1, by omega, by go_num, hI, hBW⟩
                  case measure => simp [intOf]; omega
            · obtain rfl : k = 8 := by omega
              rw [List.take_of_length_le (by omega), ← HR2.out] at hI
              have hne : res ≠ [] := fun e => by
                have := bytesOf_length FF
                rw [← HR2.out, e] at this
                simp at this
                omega
              have HS := hid (string_some B bb res wr hI hne)
              clear hI hne
              go_wp2_with fail
              refine HS.out.mono ?_
              rintro e w2 ⟨rfl, B2⟩
              go_wp2
              go_ret
              exact ⟨rfl, hBW.trans B2⟩
    · have t56 : ((m : Int) != 56) = true := by simp; omega
      have hk2 : k < nn := by
        rcases Nat.lt_or_ge k nn with e | e
        · exact e
        · have : k = nn := by omega
          have := hN.out
          have := hm'.out
          subst_vars
          omega
      have HW := hid (write_lit 0 hT hTB sB HH.out (by simp; omega))
      go_wp2_with fail
      refine HW.out.mono ?_
      rintro e w2 ⟨rfl, h2, T2, B2⟩
      have cnt2 := hid (show countOf b w2 = p.length + 1 + (k + 1) by
        obtain ⟨_, R, c, h3, _⟩ := h2
        unfold countOf; rw [h3.cells.2]; simp; omega)
      go_wp2
      exact ⟨⟨k + 1, hk2, by simpa [List.replicate_succ'] using h2, T2, hBW.trans B2⟩, by rw [cnt0.out, cnt2.out]; omega⟩
theorem Table.from_ {B : Nat} {w w' : World} (h : Table w) (hb : Below B w w') (hB : 1 < B) : Table w' := by
  obtain ⟨t, fr, h⟩ := h
  exact ⟨t, fr, by rw [hb.block _ hB]; exact h⟩
theorem sum_any {w : World} {A : Option Addr} {c : Nat} {p : List UInt8} (hT : Table w) (hp : BSA w A c p) (hn : p.length ≤ 1000000000000) :
    Calls Tryz.prog 31 #[.slice A p.length c] w fun e w' => e = .returned (.string ⟨(sum256 p).toArray⟩) ∧ Below w.heap.size w w' := by
  have hpb := hid (show ∀ ad, A = some ad → 0 < p.length → ad.block ≠ w.heap.size from fun ad e hl => by
    have := World.block_lt_of_cell? w _ (hp.2.2.2 ad e 0 hl)
    have e0 : (ad.add 0).block = ad.block := by unfold Addr.add; split <;> rfl
    omega)
  have hT0 := hT.pos
  go_enter Tryz.func31, Tryz.ntmps31
  go_wp2_with fail
  refine fresh_any.mono ?_
  rintro e w1 ⟨rfl, h1, b1⟩
  have HW := hid (write_any (hT.below b1) hT0 b1.size (Nat.le_refl _) (l := []) h1 (WaitAt.nil w1) (fun ad e => by cases e) (hp.below b1) hpb.out (.inl rfl) (by omega) (by simp; omega))
  clear h1 hpb
  go_wp2_with fail
  refine HW.out.mono ?_
  rintro e w2 ⟨rfl, ⟨R', c', k1, k2, k3⟩, k4⟩
  have b2 : Below w.heap.size w w2 := b1.trans k4
  have HT : HasT w2 w.heap.size w.heap.size p := ⟨Nat.le_refl _, R', c', by simpa using k1, by simpa using k2, k3⟩
  have HE := hid (end_any (hT.from_ b2 hT0) hT0 b2.size HT hn)
  clear HT k1 k2 k3 k4 HW
  go_wp2_with fail
  refine HE.out.mono ?_
  rintro e w3 ⟨rfl, b3⟩
  go_wp2
  go_ret
  exact ⟨rfl, b2.trans b3⟩
theorem below_row {B g : Nat} {w w' : World} (h : Below B w w') (hg : B ≤ g) (cs : Array Value) : Below B w (w'.setRow g cs) :=
  ⟨h.os, h.tape, h.output, by rw [setRow_size]; exact h.size, fun k hk => (setRow_other w' g k cs (by omega)).trans (h.block k hk)⟩
set_option maxRecDepth 100000 in
set_option maxHeartbeats 6400000 in
theorem constants_any {w : World} : Calls Tryz.prog 96 #[] w fun e w' => e = .returned (.agg (u32s roundK)) ∧ Below w.heap.size w w' := by
  go_enter Tryz.func96, Tryz.ntmps96
  go_wp2_with (refine wpList_store_row rfl 184 (.tmp 0) (.tmp 1) rfl w.heap.size (u32s roundK) rfl rfl 184 _ (heap_alloc_new w _) (by kernel_rfl) rfl (u32s_one _) ?_)
  refine bodyPost_ret (results_cell_row rfl _ _ w.heap.size 184 (u32s roundK) (0, 0) _ rfl (setRow_heap _ w.heap.size _ _ _ _ (heap_alloc_new w _)) Tryz.underlying184 rfl (by kernel_rfl)) rfl ?_
  exact ⟨rfl, below_row (below_alloc (Below.refl _ w) _) (Nat.le_refl _) _⟩
end Go.Proofs.YtnidgljkbmceaaaGreatDoor
namespace Go.Proofs.YtnidgljkbmceaaaGreatDoor.Dsk
open Go.RowKit PrintLast
theorem sum256_len (p : List UInt8) : (sum256 p).length = 32 := by
  have e : sum256 p = bytesOf (run first (padded p)).1 := rfl
  rw [e, bytesOf_length, run_length rfl _]
def check4 (p : List UInt8) : List UInt8 := (sum256 (numBytes p.length 4 ++ p)).take 4
theorem check4_length (p : List UInt8) : (check4 p).length = 4 := by unfold check4; rw [List.length_take, sum256_len]; rfl
def frameB (p : List UInt8) : List UInt8 := numBytes p.length 4 ++ check4 p ++ p
theorem frameB_length (p : List UInt8) : (frameB p).length = 8 + p.length := by simp [frameB, numBytes_length, check4_length]; omega
end Go.Proofs.YtnidgljkbmceaaaGreatDoor.Dsk
namespace Go.Proofs.YtnidgljkbmceaaaGreatDoor
open Go.RowKit PrintLast
def wrow (F : Nat → UInt32) (i : Nat) : List UInt32 := (List.range 64).map fun j => if j < i then F j else 0
theorem wrow_length (F : Nat → UInt32) (i : Nat) : (wrow F i).length = 64 := by simp [wrow]
theorem wrow_get (F : Nat → UInt32) (i j : Nat) (hj : j < 64) : (wrow F i).getD j 0 = if j < i then F j else 0 := by
  simp [wrow, List.getD_eq_getElem?_getD, hj]
theorem wrow_zero (F : Nat → UInt32) : wrow F 0 = List.replicate 64 0 := by simp [wrow]; rfl
theorem wrow_next (F : Nat → UInt32) (i : Nat) (_hi : i < 64) : (wrow F i).set i (F i) = wrow F (i + 1) := by
  apply List.ext_getElem
  · simp [wrow]
  · intro j h1 h2
    have hj : j < 64 := by simpa [wrow] using h2
    rw [List.getElem_set]
    by_cases e : i = j
    · subst e
      simp [wrow]
    · rw [if_neg e]
      simp only [wrow, List.getElem_map, List.getElem_range]
      by_cases h : j < i
      · rw [if_pos h, if_pos (by omega)]
      · rw [if_neg h, if_neg (by omega)]
theorem be_read (l : List UInt8) (h : l.length = 4) : ((be l).toNat : Int) = (readNat l : Int) := by
  match l, h with
  | [a, b, c, d], _ =>
    have ha := a.toNat_lt
    have hb := b.toNat_lt
    have hc := c.toNat_lt
    have hd := d.toNat_lt
    have key : ∀ (x : UInt32) (y : UInt8) (n : Nat), x.toNat = n → n < 16777216 → (wOr (wShl x 8) y.toUInt32).toNat = 256 * n + y.toNat := fun x y n hx hn => by
      have hy := y.toNat_lt
      unfold wOr wShl
      rw [UInt32.toNat_or, UInt32.toNat_shiftLeft, hx, UInt8.toNat_toUInt32]
      have e8 : (UInt32.ofNat 8).toNat % 32 = 8 := rfl
      rw [e8, Nat.shiftLeft_eq, Nat.mod_eq_of_lt (by omega)]
      have := Nat.two_pow_add_eq_or_of_lt (i := 8) (b := y.toNat) (by omega) n
      rw [Nat.mul_comm n (2 ^ 8)]
      omega
    have e0 := key 0 a 0 rfl (by omega)
    have e1 := key _ b _ e0 (by omega)
    have e2 := key _ c _ e1 (by omega)
    have e3 := key _ d _ e2 (by omega)
    have : (be [a, b, c, d]).toNat = readNat [a, b, c, d] := by
      simp only [be, readNat, List.foldl_cons, List.foldl_nil]
      simpa using e3
    omega
def sh (l : List UInt32) (j : Nat) : List UInt32 := l.take (j + 1) ++ (l.drop j).take (7 - j)
theorem sh_start {l : List UInt32} (h : l.length = 8) : sh l 7 = l := by
  obtain ⟨a, b, c, d, e, f, g, i, rfl⟩ := eight h
  rfl
theorem sh_length {l : List UInt32} (h : l.length = 8) {j : Nat} (hj : j ≤ 7) : (sh l j).length = 8 := by simp [sh, h]; omega
theorem sh_next {l : List UInt32} (h : l.length = 8) {j : Nat} (h1 : j + 1 ≤ 7) : (sh l (j + 1)).set (j + 1) ((sh l (j + 1)).getD j 0) = sh l j := by
  obtain ⟨a, b, c, d, e, f, g, i, rfl⟩ := eight h
  have : j = 0 ∨ j = 1 ∨ j = 2 ∨ j = 3 ∨ j = 4 ∨ j = 5 ∨ j = 6 := by omega
  rcases this with rfl | rfl | rfl | rfl | rfl | rfl | rfl <;> rfl
theorem run_next (s : List UInt32) (q : List UInt8) (k : Nat) (h : 64 * (k + 1) ≤ q.length) : (run s (q.take (64 * (k + 1)))).1 = comp (wordsOf ((q.drop (64 * k)).take 64)) (run s (q.take (64 * k))).1 := by
  have e : q.take (64 * (k + 1)) = q.take (64 * k) ++ (q.drop (64 * k)).take 64 := by
    rw [show 64 * (k + 1) = 64 * k + 64 by omega, List.take_add]
  have hr : (run s (q.take (64 * k))).2 = [] := by
    apply List.eq_nil_of_length_eq_zero
    rw [run_rest_length, List.length_take]
    omega
  rw [e, run_append, hr, List.nil_append]
  have hl : ((q.drop (64 * k)).take 64).length = 64 := by simp; omega
  rw [run_block (by omega), List.take_of_length_le (by omega), run_short (by simp)]
theorem chunk_drop (q : List UInt8) (a j : Nat) (hj : j < 16) : chunk ((q.drop a).take 64) j = (q.drop (a + 4 * j)).take 4 := by
  unfold chunk
  rw [List.drop_take, List.drop_drop, List.take_take]
  congr 1
  omega
theorem W_first (q : List UInt8) (j : Nat) (hj : j < 16) : W (wordsOf q) j = be (chunk q j) := by
  rw [W_low (wordsOf_length q) hj]
  simp [wordsOf, List.getD_eq_getElem?_getD, hj]
end Go.Proofs.YtnidgljkbmceaaaGreatDoor
