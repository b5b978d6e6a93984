import Derived.Test.YtmbgfjcmdolggaaDoorMB
import Derived.ArgAppend
import Derived.Deep.DeepCutAuto
import Derived.Test.YtmbgfjcmdolggaaDoorMA
import Derived.Deep.CutBlock
set_option linter.unusedVariables false
set_option linter.unusedSimpArgs false
/- Bytes that wait, in a row that may begin inside its block; the walk of write. -/
namespace Go.Proofs.YtmbgfjcmdolggaaDoor
open Go.RowKit PrintLast

/-- The bytes l wait in a slice of the hasher's own: its room lies behind them, in one block. -/
def WaitAt (w : World) (R : Option Addr) (c : Nat) (l : List UInt8) : Prop :=
  l.length ≤ c ∧ c ≤ maxLen ∧ ((R = none ∧ c = 0) ∨ ∃ g off cur, R = some ⟨g, off, none⟩ ∧ w.heap[g]? = some (.cells cur 5 (0, 0)) ∧ off + c ≤ cur.size ∧ ∀ j (hj : j < l.length), cur[off + j]? = some (.int .u8 (l[j].toNat : Int)))

theorem WaitAt.nil (w : World) : WaitAt w none 0 [] := ⟨Nat.le_refl _, by unfold maxLen; omega, .inl ⟨rfl, rfl⟩⟩
theorem WaitAt.of_own {w : World} {base n : Nat} {A : Option Addr} {m c : Nat} {l : List UInt8} (h : w.ownsRow base 5 1 (.slice A m c) n (bytesV l)) : WaitAt w A c l := by
  have h0 := h
  obtain ⟨h1, h2⟩ := h
  have hl : l.length = n := by simpa [bytesV] using h1
  rcases h2 with ⟨e1, rfl⟩ | ⟨g, cap, cur, e1, hb, hh, hn, hc, hs, ht⟩
  · cases e1
    obtain rfl := List.eq_nil_of_length_eq_zero hl
    exact WaitAt.nil w
  · cases e1
    refine ⟨by omega, by simpa using hc, .inr ⟨g, 0, cur, rfl, hh, by omega, fun j hj => ?_⟩⟩
    have := h0.cells (g := g) rfl j _ (bytesV_get l j hj)
    rw [add_plain, cell_of_row w g j cur _ _ hh] at this
    simpa using this
theorem WaitAt.bsa {w : World} {R : Option Addr} {c : Nat} {l : List UInt8} (h : WaitAt w R c l) : BSA w R c l := by
  obtain ⟨h1, h2, h3⟩ := h
  refine ⟨h1, h2, fun e => ?_, fun ad e j hj => ?_⟩
  · rcases h3 with ⟨_, h3⟩ | ⟨g, off, cur, e', _⟩
    · exact h3
    · rw [e] at e'; cases e'
  · rcases h3 with ⟨e', h3⟩ | ⟨g, off, cur, e', h4, h5, h6⟩
    · rw [e] at e'; cases e'
    · rw [e] at e'
      cases e'
      have : (⟨g, off, none⟩ : Addr).add j = ⟨g, off + j, none⟩ := by unfold Addr.add; split <;> simp_all
      rw [this, cell_of_row w g (off + j) cur _ _ h4]
      exact h6 j hj
theorem WaitAt.keeps {S : Nat → Prop} {w w' : World} {R : Option Addr} {c : Nat} {l : List UInt8} (h : WaitAt w R c l) (hk : Keeps S w w') (hn : ∀ ad, R = some ad → ¬ S ad.block) : WaitAt w' R c l := by
  obtain ⟨h1, h2, h3⟩ := h
  refine ⟨h1, h2, ?_⟩
  rcases h3 with h3 | ⟨g, off, cur, rfl, h4, h5⟩
  · exact .inl h3
  · exact .inr ⟨g, off, cur, rfl, hk.heap h4 (hn _ rfl), h5⟩
theorem WaitAt.below {w w' : World} {R : Option Addr} {c : Nat} {l : List UInt8} (h : WaitAt w R c l) (hb : Below w.heap.size w w') : WaitAt w' R c l := h.keeps (S := fun _ => False) (Keeps.of_below hb) (fun _ _ e => e)
/-- It is no block of another type. -/
theorem WaitAt.other {w : World} {R : Option Addr} {c : Nat} {l : List UInt8} (h : WaitAt w R c l) {b : Nat} {cs : Array Value} {t : TypeId} {fr : Nat × Nat} (hb : w.heap[b]? = some (.cells cs t fr)) (ht : t ≠ 5) : ∀ ad, R = some ad → ad.block ≠ b := by
  intro ad e e'
  rcases h.2.2 with ⟨h3, _⟩ | ⟨g, off, cur, h3, h4, _⟩
  · rw [e] at h3; cases h3
  · rw [e] at h3
    cases h3
    subst e'
    rw [h4] at hb
    simp only [Option.some.injEq, Obj.cells.injEq] at hb
    exact ht hb.2.1.symm
/-- The first k let go. -/
theorem WaitAt.drop {w : World} {g off c : Nat} {l : List UInt8} (h : WaitAt w (some ⟨g, off, none⟩) c l) (k : Nat) (hk : k ≤ l.length) : WaitAt w (some ⟨g, off + k, none⟩) (c - k) (l.drop k) := by
  obtain ⟨h1, h2, h3⟩ := h
  refine ⟨by simp; omega, by omega, ?_⟩
  rcases h3 with ⟨h3, _⟩ | ⟨g', off', cur, h3, h4, h5, h6⟩
  · cases h3
  · cases h3
    refine .inr ⟨g, off + k, cur, rfl, h4, by omega, fun j hj => ?_⟩
    have hj' : k + j < l.length := by simp at hj; omega
    have := h6 (k + j) hj'
    simp only [List.getElem_drop]
    rw [← this]
    congr 1
    omega

/-- 'append' onto what waits: the first bytes of all, or one byte more. -/
theorem wpList_appW {w : World} {ops : Array Oper} {rest : List Oper} {o : Oper} {a : Act} {Q : Exit → Act → World → Prop} (hgd : o.guard = none) (s x : Operand)
    (ho : o.op = .call { callee := .builtin .append, args := #[s, x], argTypes := #[23, 23] })
    (R : Option Addr) (c : Nat) (l : List UInt8) (hs : a.eval s = .slice R l.length c) (hW : WaitAt w R c l) (A : Option Addr) (c2 : Nat) (q : List UInt8) (hx : a.eval x = .slice A q.length c2) (hb : BSA w A c2 q)
    (hq : R = none ∨ q.length = 1) (h47 : l.length + q.length ≤ 140737488355328)
    (h : ∀ R' c' w', WaitAt w' R' c' (l ++ q) → Keeps (fun k => ∃ ad, R = some ad ∧ ad.block = k) w w' → (∀ ad, R' = some ad → (∃ ad', R = some ad' ∧ ad'.block = ad.block) ∨ w.heap.size ≤ ad.block) → wpList Tryd.prog ops Q rest (a.put o.dst (.slice R' (l.length + q.length) c')) w') : wpList Tryd.prog ops Q (o :: rest) a w := by
  obtain ⟨h1, h2, h3⟩ := hW
  rcases h3 with ⟨rfl, rfl⟩ | ⟨g, off, cur, rfl, h4, h5, h6⟩
  · have hl : l = [] := List.eq_nil_of_length_eq_zero (by omega)
    subst hl
    refine wpList_app8 23 5 Tryd.underlying23 (by kernel_rfl) hgd s x ho (.slice none 0 0) [] hs (World.ownsRow_nil _ _ _ _) A c2 q hx hb h47 ?_
    intro A' c' w' k1 k2 k3 k4
    refine h A' c' w' (WaitAt.of_own k1) ((Keeps.refl _ w).grown k2 (fun k e => by cases e)) (fun ad e => .inr ?_)
    rcases k3 with k3 | k3
    · cases A' with
      | none => cases e
      | some ad' => simp [Value.ownBlock] at k3
    · cases A' with
      | none => cases e
      | some ad' =>
        cases e
        simp only [Value.ownBlock, Option.some.injEq] at k3
        omega
  · rcases hq with hq | hq
    · cases hq
    · obtain ⟨n1, n2, n3⟩ := bsa_news hb
      obtain ⟨v0, rfl⟩ : ∃ v0, q = [v0] := by
        match q, hq with
        | [v0], _ => exact ⟨v0, rfl⟩
      cases A with
      | none => have := (n2 rfl).1; simp at this
      | some ad =>
        obtain ⟨i0, hi, hz0, hz1, hz2⟩ := info_parts (show (Tryd.prog.info? 5).map (fun i => (i.zero, i.size, i.bytes)) = some (some (.int .u8 0), 1, 1) by kernel_rfl)
        have hcell : ∀ j, w.cell? ⟨g, j, none⟩ = cur[j]? := fun j => cell_of_row w g j cur _ _ h4
        refine wpList_append_arg w hgd s x 23 ho 5 i0 (.int .u8 0) 1 1 Tryd.underlying23 hi hz0 hz1 hz2 rfl (by decide) g off l.length c (bytesV l) hs (by simp [bytesV]) ?_ ad 1 c2 (bytesV [v0]) hx (by simp [bytesV]) (n3 ad rfl) (bytesV_one _) ?_ (by unfold maxLen; simp at h47; omega) (by simp at h47; omega) ?_ ?_
        · intro j u hu
          obtain ⟨hj, rfl⟩ := bytesV_some hu
          rw [hcell]
          exact h6 j hj
        · intro hroom j hj
          have hj0 : j = 0 := by simp [bytesV] at hj; omega
          subst hj0
          refine ⟨?_, free_at h4 _⟩
          rw [hcell]
          simp only [Nat.mul_one, Nat.add_zero]
          rw [Array.getElem?_eq_getElem (by omega)]
          rfl
        · intro hroom
          have e1 : w.setCells g (off + l.length * 1) (bytesV [v0]) = w.setCell ⟨g, off + l.length, none⟩ (.int .u8 (v0.toNat : Int)) := by rw [Nat.mul_one]; rfl
          rw [e1]
          refine h (some ⟨g, off, none⟩) c _ ⟨by simp; omega, h2, .inr ⟨g, off, cur.setIfInBounds (off + l.length) (.int .u8 (v0.toNat : Int)), rfl, heap_set h4, by simpa using h5, fun j hj => ?_⟩⟩ ((Keeps.refl _ w).setCell (p := ⟨g, off + l.length, none⟩) (fun _ => ⟨_, rfl, rfl⟩) _) (fun ad e => .inl ⟨_, rfl, by cases e; rfl⟩)
          by_cases ej : j = l.length
          · subst ej
            rw [Array.getElem?_setIfInBounds_self_of_lt (by omega)]
            simp
          · rw [Array.getElem?_setIfInBounds_ne (by omega)]
            have hj' : j < l.length := by simp at hj; omega
            rw [List.getElem_append_left hj']
            exact h6 j hj'
        · intro hgrow v' w' k1 k2
          have hform : ∃ A' c', v' = .slice A' (l.length + 1) c' := by
            rcases k1.2 with ⟨_, h0⟩ | ⟨g', cap', cur', e', _⟩
            · omega
            · exact ⟨_, _, e'⟩
          obtain ⟨A', c', rfl⟩ := hform
          rw [← bytesV_append] at k1
          refine h A' c' w' (WaitAt.of_own k1) ((Keeps.refl _ w).grown k2 (fun k e => by cases e)) (fun ad e => .inr ?_)
          rcases k1.2 with ⟨_, h0⟩ | ⟨g', cap', cur', e', hb', _⟩
          · omega
          · subst e
            cases e'
            exact hb'
end Go.Proofs.YtmbgfjcmdolggaaDoor

/- The walk of write: more bytes; blocks are eaten as they come to be whole. -/
namespace Go.Proofs.YtmbgfjcmdolggaaDoor
open Go.RowKit PrintLast

theorem HashAt.cells {w : World} {b m c n : Nat} {R : Option Addr} {s : List UInt32} (h : HashAt w b s R m c n) : w.cell? ⟨b, 8, none⟩ = some (.slice R m c) ∧ w.cell? ⟨b, 9, none⟩ = some (.int .u64 (n : Int)) := by
  obtain ⟨h1, h2⟩ := h
  obtain ⟨a, b', c', d, e, f, g, i, rfl⟩ := eight h1
  exact ⟨cell_at h2 rfl, cell_at h2 rfl⟩
theorem HashAt.set8 {w : World} {b m c n : Nat} {R : Option Addr} {s : List UInt32} (h : HashAt w b s R m c n) (R' : Option Addr) (m' c' : Nat) : HashAt (w.setCell ⟨b, 8, none⟩ (.slice R' m' c')) b s R' m' c' n := by
  obtain ⟨h1, h2⟩ := h
  refine ⟨h1, ?_⟩
  obtain ⟨a, b', c', d, e, f, g, i, rfl⟩ := eight h1
  exact heap_set h2
theorem HashAt.set9 {w : World} {b m c n : Nat} {R : Option Addr} {s : List UInt32} (h : HashAt w b s R m c n) (n' : Nat) : HashAt (w.setCell ⟨b, 9, none⟩ (.int .u64 (n' : Int))) b s R m c n' := by
  obtain ⟨h1, h2⟩ := h
  refine ⟨h1, ?_⟩
  obtain ⟨a, b', c', d, e, f, g, i, rfl⟩ := eight h1
  exact heap_set h2
theorem BSA.take {w : World} {A : Option Addr} {c : Nat} {l : List UInt8} (h : BSA w A c l) (k : Nat) : BSA w A c (l.take k) :=
  ⟨by have := h.1; simp; omega, h.2.1, h.2.2.1, fun ad e j hj => by
    have hj' : j < l.length := by simp at hj; omega
    rw [List.getElem_take]
    exact h.2.2.2 ad e j hj'⟩
def waitLen (b : Nat) (w : World) : Nat := match w.cell? ⟨b, 8, none⟩ with
  | some (.slice _ m _) => m
  | _ => 0
theorem below_of_keeps {B : Nat} {S : Nat → Prop} {w w' : World} (hk : Keeps S w w') (hB : B ≤ w.heap.size) (hS : ∀ k, k < B → ¬ S k) : Below B w w' :=
  ⟨hk.os, hk.tape, hk.output, hk.size, fun k hk' => hk.block k (by omega) (hS k hk')⟩

set_option maxRecDepth 100000 in
set_option maxHeartbeats 1600000 in
theorem write_any {w : World} {B b c n c2 : Nat} {R A : Option Addr} {s : List UInt32} {l q : List UInt8} (hT : Table w) (hTB : 0 < B) (hB : B ≤ w.heap.size) (hb : B ≤ b) (h1 : HashAt w b s R l.length c n) (h2 : WaitAt w R c l) (h3 : ∀ ad, R = some ad → B ≤ ad.block)
    (hq : BSA w A c2 q) (hqb : ∀ ad, A = some ad → 0 < q.length → ad.block ≠ b) (hq1 : R = none ∨ q.length = 1) (hn : n + q.length ≤ 1152921504606846976) (hlq : l.length + q.length ≤ 140737488355328) :
    Calls Tryd.prog 64 #[.pointer (some ⟨b, 0, none⟩), .slice A q.length c2] w fun e w' => e = .returned (.tuple #[]) ∧ (∃ R' c', HashAt w' b (run s (l ++ q)).1 R' (run s (l ++ q)).2.length c' (n + q.length) ∧ WaitAt w' R' c' (run s (l ++ q)).2 ∧ (∀ ad, R' = some ad → B ≤ ad.block)) ∧ Below B w w' := by
  obtain ⟨x8, x9⟩ := h1.cells
  have f9 := free_at h1.2 9
  have f8 := free_at h1.2 8
  have a9 : ((n : Int) + (q.length : Int)) % 18446744073709551616 = (n : Int) + (q.length : Int) := by omega
  have aq : (q.length : Int) % 18446744073709551616 = (q.length : Int) := by omega
  have K1 := Keeps.set1 w b 9 (.int .u64 ((n : Int) + (q.length : Int)))
  have H1 : HashAt (w.setCell ⟨b, 9, none⟩ (.int .u64 ((n : Int) + (q.length : Int)))) b s R l.length c (n + q.length) := h1.set9 (n + q.length)
  have W1 := h2.keeps K1 (h2.other h1.2 (by decide))
  have Q1 := hq.keeps' K1 (fun ad e hl => hqb ad e hl)
  have hsz := K1.size
  have hRb := h2.other h1.2 (by decide)
  have T1 := hT.keeps K1 (by omega)
  have B1 := below_of_keeps K1 hB (fun k hk => by omega)
  go_enter Tryd.func64, Tryd.ntmps64
  go_wp2_with (refine wpList_appW rfl (.tmp 18) (.tmp 19) rfl R c l rfl W1 A c2 q rfl Q1 hq1 hlq ?_)
  intro R1 c1 w1 W2 K2 E2
  have nb : ¬ ∃ ad, R = some ad ∧ ad.block = b := fun ⟨ad, e, e'⟩ => hRb ad e e'
  have H2 := H1.keeps K2 nb
  obtain ⟨y8, y9⟩ := H2.cells
  have g8 := free_at H2.2 8
  have H3 := H2.set8 R1 (l.length + q.length) c1
  have K3 := Keeps.set1 w1 b 8 (.slice R1 (l.length + q.length) c1)
  have W3 := W2.keeps K3 (W2.other H2.2 (by decide))
  have hR3 : ∀ ad, R1 = some ad → B ≤ ad.block := fun ad e => by
    rcases E2 ad e with ⟨ad', e1, e2⟩ | e1
    · rw [← e2]; exact h3 ad' e1
    · omega
  have B2 : Below B w w1 := B1.trans (below_of_keeps K2 (by omega) (fun k hk => fun ⟨ad, e, e'⟩ => by have := h3 ad e; omega))
  have B3 := B2.trans (below_of_keeps K3 (Nat.le_trans hB B2.size) (fun k hk => by omega))
  have T3 : Table (w1.setCell ⟨b, 8, none⟩ (.slice R1 (l.length + q.length) c1)) := (T1.keeps K2 (fun ⟨ad, e, e'⟩ => by have := h3 ad e; omega)).keeps K3 (by omega)
  clear x8 x9 f9 f8 a9 aq K1 H1 W1 Q1 K2 E2 H2 W2 K3 B1 B2 T1 hq hqb hq1 h1 h2 h3 hT hRb nb hsz
  go_wp2
  generalize w1.setCell ⟨b, 8, none⟩ (.slice R1 (l.length + q.length) c1) = W0 at *
  clear y8 y9 g8
  go_loopw [] (fun wr => ∃ s' R' c' l', HashAt wr b s' R' l'.length c' (n + q.length) ∧ WaitAt wr R' c' l' ∧ (∀ ad, R' = some ad → B ≤ ad.block) ∧ run s' l' = run s (l ++ q) ∧ Table wr ∧ Below B w wr) (fun wr => waitLen b wr)
  case atStart => exact ⟨s, R1, c1, l ++ q, by simpa using H3, W3, hR3, rfl, T3, B3⟩
  case round =>
    clear H3 W3 hR3 T3 B3
    obtain ⟨s', R', c', l', hH, hW, hR, hrun0, hT, hBW⟩ := hrel
    have hrun := hid hrun0
    have hl' : l'.length ≤ 9223372036854775807 := hW.bsa.le
    have sB := hBW.size
    clear hrun0
    obtain ⟨z8, z9⟩ := hH.cells
    by_cases h64 : 64 ≤ l'.length
    · have t64 : decide ((64 : Int) ≤ (l'.length : Int)) = true := by simp; omega
      have hcc := hW.1
      have wr0 := hid (show waitLen b wr = l'.length by unfold waitLen; rw [z8])
      obtain ⟨g, off, rfl⟩ : ∃ g off, R' = some ⟨g, off, none⟩ := by
        rcases hW.2.2 with ⟨_, e⟩ | ⟨g, off, _, e, _⟩
        · omega
        · exact ⟨g, off, e⟩
      have hgb := hW.other hH.2 (by decide) _ rfl
      have EA := hid (eat_any hT hH (hW.bsa.take 64) (by simp; omega))
      go_wp2_with fail
      refine EA.out.mono ?_
      rintro e w6 ⟨rfl, H6, K6⟩
      have W6 := hW.keeps K6 (fun ad e => by cases e; exact hgb)
      have T6 := hT.keeps K6 (by omega)
      have B6 := hBW.trans (below_of_keeps K6 (Nat.le_trans hB sB) (fun k hk => by omega))
      have e6 := hrun.out
      rw [run_block h64] at e6
      have E6 := hid e6
      obtain ⟨y8, y9⟩ := H6.cells
      have f8 := free_at H6.2 8
      have hBg := hR _ rfl
      clear hT hH hW z8 z9 hBW EA hrun e6 hR
      by_cases hc64 : c' = 64
      · have H7 := H6.set8 (some ⟨g, off, none⟩) (l'.length - 64) 0
        have K7 := Keeps.set1 w6 b 8 (.slice (some ⟨g, off, none⟩) (l'.length - 64) 0)
        have W7 : WaitAt (w6.setCell ⟨b, 8, none⟩ (.slice (some ⟨g, off, none⟩) (l'.length - 64) 0)) (some ⟨g, off, none⟩) 0 (l'.drop 64) := by
          have hd : l'.drop 64 = [] := List.drop_eq_nil_of_le (by omega)
          rw [hd]
          obtain ⟨g', off', cur, e, h4, h5, h6⟩ := W6.2.2.resolve_left (fun e => by cases e.1)
          cases e
          exact ⟨Nat.le_refl _, by unfold maxLen; omega, .inr ⟨g, off, cur, rfl, K7.heap h4 hgb, by omega, fun j hj => by simp at hj⟩⟩
        have L7 := hid (show (l'.drop 64).length = l'.length - 64 by simp)
        have T7 := T6.keeps K7 (by omega)
        have B7 := B6.trans (below_of_keeps K7 (Nat.le_trans hB B6.size) (fun k hk => by omega))
        have wl := hid (show waitLen b (w6.setCell ⟨b, 8, none⟩ (.slice (some ⟨g, off, none⟩) (l'.length - 64) 0)) = l'.length - 64 by
          unfold waitLen; rw [H7.cells.1])
        subst hc64
        clear hcc
        go_wp2
        exact ⟨⟨_, _, _, l'.drop 64, by rw [L7.out]; exact H7, W7, (fun ad e => by cases e; exact hBg), E6.out, T7, B7⟩, by rw [wl.out, wr0.out]; omega⟩
      · have H7 := H6.set8 (some ⟨g, off + 64, none⟩) (l'.length - 64) (c' - 64)
        have K7 := Keeps.set1 w6 b 8 (.slice (some ⟨g, off + 64, none⟩) (l'.length - 64) (c' - 64))
        have W7 := (W6.drop 64 h64).keeps K7 (fun ad e => by cases e; exact hgb)
        have T7 := T6.keeps K7 (by omega)
        have B7 := B6.trans (below_of_keeps K7 (Nat.le_trans hB B6.size) (fun k hk => by omega))
        have L7 := hid (show (l'.drop 64).length = l'.length - 64 by simp)
        have wl := hid (show waitLen b (w6.setCell ⟨b, 8, none⟩ (.slice (some ⟨g, off + 64, none⟩) (l'.length - 64) (c' - 64))) = l'.length - 64 by
          unfold waitLen; rw [H7.cells.1])
        go_wp2
        exact ⟨⟨_, _, _, l'.drop 64, by rw [L7.out]; exact H7, W7, (fun ad e => by cases e; exact hBg), E6.out, T7, B7⟩, by rw [wl.out, wr0.out]; omega⟩
    · have t64 : decide ((64 : Int) ≤ (l'.length : Int)) = false := by simp; omega
      go_wp2
      go_end0
      have e := hrun.out
      rw [run_short (by omega)] at e
      rw [← e]
      exact ⟨rfl, ⟨R', c', hH, hW, hR⟩, hBW⟩
end Go.Proofs.YtmbgfjcmdolggaaDoor

/- The walks of fresh, end, Sum. -/
namespace Go.Proofs.YtmbgfjcmdolggaaDoor
open Go.RowKit PrintLast

/-- A hasher to which the bytes t came; all that is its own is numbered from B on. -/
def HasT (w : World) (B b : Nat) (t : List UInt8) : Prop := B ≤ b ∧ ∃ R c, HashAt w b (run first t).1 R (run first t).2.length c t.length ∧ WaitAt w R c (run first t).2 ∧ ∀ ad, R = some ad → B ≤ ad.block
theorem HasT.below {w w' : World} {B b : Nat} {t : List UInt8} (h : HasT w B b t) (hb : Below w.heap.size w w') : HasT w' B b t := by
  obtain ⟨h1, R, c, h2, h3, h4⟩ := h
  exact ⟨h1, R, c, h2.below hb, h3.below hb, h4⟩
theorem HasT.lt {w : World} {B b : Nat} {t : List UInt8} (h : HasT w B b t) : b < w.heap.size := by
  obtain ⟨h1, R, c, h2, _⟩ := h
  exact lt_of_block h2.2

theorem write_one {w : World} {B b c2 : Nat} {A : Option Addr} {t : List UInt8} {x : UInt8} (hT : Table w) (hTB : 0 < B) (hB : B ≤ w.heap.size) (h : HasT w B b t) (hq : BSA w A c2 [x]) (hqb : ∀ ad, A = some ad → ad.block ≠ b) (hn : t.length ≤ 140737488355328) :
    Calls Tryd.prog 64 #[.pointer (some ⟨b, 0, none⟩), .slice A 1 c2] w fun e w' => e = .returned (.tuple #[]) ∧ HasT w' B b (t ++ [x]) ∧ Below B w w' := by
  obtain ⟨h1, R, c, h2, h3, h4⟩ := h
  have hl := run_rest_length first t
  refine (write_any hT hTB hB h1 h2 h3 h4 hq (fun ad e _ => hqb ad e) (.inr rfl) (by simp; omega) (by rw [hl]; simp; omega)).mono ?_
  rintro e w' ⟨he, ⟨R', c', k1, k2, k3⟩, k4⟩
  rw [← run_append] at k1 k2
  exact ⟨he, ⟨h1, R', c', by simpa using k1, k2, k3⟩, k4⟩

theorem fresh_any {w : World} : Calls Tryd.prog 63 #[] w fun e w' => e = .returned (.pointer (some ⟨w.heap.size, 0, none⟩)) ∧ HashAt w' w.heap.size first none 0 0 0 ∧ Below w.heap.size w w' := by
  go_enter Tryd.func63, Tryd.ntmps63
  go_wp2
  go_ret
  exact ⟨rfl, ⟨rfl, heap_alloc_new w _⟩, below_alloc (Below.refl _ w) _⟩

theorem infoState : (Tryd.prog.info? 112).map (·.size) = some 8 := by kernel_rfl
theorem index8 {w : World} (l : List UInt32) (hl : l.length = 8) (k : Nat) (hk : k < 8) : (Instr.index 112 (.agg (u32s l)) (.int .i64 (k : Int))).run Tryd.prog w = .ok (.int .u32 ((l.getD k 0).toNat : Int)) w := by
  obtain ⟨j, hj, hs⟩ := Option.map_eq_some_iff.1 infoU32
  exact run_index_words Tryd.underlying112 (by kernel_rfl) hj hs l hl k hk

theorem byte_of (n m : Nat) : ((n : Int) / 2 ^ m) % 256 = ((UInt8.ofNat (n / 2 ^ m)).toNat : Int) := by
  rw [UInt8.toNat_ofNat']
  simp
theorem one_bsa (w : World) (x : UInt8) : BSA (w.alloc (.cells #[.int .u8 (x.toNat : Int)] 5)) (some ⟨w.heap.size, 0, none⟩) 1 [x] := by
  refine ⟨by simp, by unfold maxLen; omega, (fun e => by cases e), fun ad e j hj => ?_⟩
  cases e
  have hj0 : j = 0 := by simp at hj; omega
  subst hj0
  rw [add_plain]
  exact cell_at (heap_alloc_new w _) rfl
/-- write of a byte that a literal has laid. -/
theorem write_lit {w : World} {B b : Nat} {t : List UInt8} (x : UInt8) (hT : Table w) (hTB : 0 < B) (hB : B ≤ w.heap.size) (h : HasT w B b t) (hn : t.length ≤ 140737488355328) :
    Calls Tryd.prog 64 #[.pointer (some ⟨b, 0, none⟩), .slice (some ⟨w.heap.size, 0, none⟩) 1 1] (w.alloc (.cells #[.int .u8 (x.toNat : Int)] 5)) fun e w' => e = .returned (.tuple #[]) ∧ HasT w' B b (t ++ [x]) ∧ Table w' ∧ Below B w w' := by
  have hb := below_alloc (Below.refl _ w) (.cells #[.int .u8 (x.toNat : Int)] 5)
  have hbl := h.lt
  refine (write_one (hT.below hb) hTB (Nat.le_trans hB hb.size) (h.below hb) (one_bsa w x) (fun ad e => by cases e; show w.heap.size ≠ b; omega) hn).mono ?_
  rintro e w' ⟨he, k1, k2⟩
  have hB' := (hb.mono hB).trans k2
  exact ⟨he, k1, hT.keeps (Keeps.mono (S := fun k => B ≤ k) ⟨hB'.os, hB'.tape, hB'.output, hB'.size, fun k _ hk => hB'.block k (by omega)⟩ (fun _ _ e => e)) (by omega), hB'⟩

def countOf (b : Nat) (w : World) : Nat := match w.cell? ⟨b, 9, none⟩ with
  | some (.int _ n) => n.toNat
  | _ => 0
theorem eightBytes_get (n j : Nat) (hj : j < 8) : (eightBytes n).take (j + 1) = (eightBytes n).take j ++ [UInt8.ofNat (n / 2 ^ (56 - 8 * j))] := by
  rw [List.take_succ_eq_append_getElem (by simp [eightBytes]; omega)]
  congr 2
  simp only [eightBytes, List.getElem_map, List.getElem_range]
  congr 3
  omega
theorem fourBytes_get (x : UInt32) (j : Nat) (hj : j < 4) : (fourBytes x).take (j + 1) = (fourBytes x).take j ++ [UInt8.ofNat (x.toNat / 2 ^ (24 - 8 * j))] := by
  rw [List.take_succ_eq_append_getElem (by simp [fourBytes]; omega)]
  congr 2
  simp only [fourBytes, List.getElem_map, List.getElem_range]
  congr 3
  omega
theorem bytesOf_next (s : List UInt32) (k : Nat) (hk : k < s.length) : bytesOf (s.take (k + 1)) = bytesOf (s.take k) ++ fourBytes (s.getD k 0) := by
  have e : s.getD k 0 = s[k] := by simp [List.getD_eq_getElem?_getD, hk]
  rw [List.take_succ_eq_append_getElem hk, e]
  unfold bytesOf
  rw [List.flatMap_append]
  simp only [List.flatMap_cons, List.flatMap_nil, List.append_nil]
theorem bytesOf_length (s : List UInt32) : (bytesOf s).length = 4 * s.length := by
  induction s with
  | nil => rfl
  | cons x s ih =>
    have : bytesOf (x :: s) = fourBytes x ++ bytesOf s := rfl
    rw [this, List.length_append, ih, fourBytes_length, List.length_cons]
    omega

set_option maxRecDepth 100000 in
set_option maxHeartbeats 3200000 in
theorem end_any {w : World} {B b : Nat} {p : List UInt8} (hT : Table w) (hTB : 0 < B) (hB : B ≤ w.heap.size) (h : HasT w B b p) (hn : p.length ≤ 1000000000000) :
    Calls Tryd.prog 65 #[.pointer (some ⟨b, 0, none⟩)] w fun e w' => e = .returned (.string ⟨(sum256 p).toArray⟩) ∧ Below B w w' := by
  obtain ⟨_, R0, c0, h2, _⟩ := id h
  obtain ⟨x8, x9⟩ := h2.cells
  have a8 : ((p.length : Int) * 8) % 18446744073709551616 = (p.length : Int) * 8 := by omega
  have HW := hid (write_lit 128 hT hTB hB h (by omega))
  obtain ⟨res, hres⟩ : ∃ r, r = sum256 p := ⟨_, rfl⟩
  rw [← hres]
  have HRES := hid hres
  have hN := hid (noughts_spec p.length)
  have hM := hid (noughts_min p.length)
  obtain ⟨nn, hnn⟩ : ∃ n, n = noughts p.length := ⟨_, rfl⟩
  rw [← hnn] at hN hM
  have HNN := hid hnn
  have hn64 : nn ≤ 64 := by rw [hnn]; unfold noughts; omega
  clear h2 h hT hres hnn
  go_enter Tryd.func65, Tryd.ntmps65
  go_wp2_with fail
  refine HW.out.mono ?_
  rintro e w1 ⟨rfl, h1, T1, B1⟩
  clear HW x8 x9 a8
  go_wp2
  go_loopw [] (fun wr => ∃ k : Nat, k ≤ nn ∧ HasT wr B b (p ++ [128] ++ List.replicate k 0) ∧ Table wr ∧ Below B w wr) (fun wr => p.length + 1 + nn - countOf b wr)
  case atStart => exact ⟨0, Nat.zero_le _, by simpa using h1, T1, B1⟩
  case round =>
    clear h1 T1 B1
    obtain ⟨k, hk, hH, hT, hBW⟩ := hrel
    obtain ⟨_, R, c, h2, _⟩ := id hH
    rw [run_rest_length] at h2
    obtain ⟨x8, x9⟩ := h2.cells
    have tl : (p ++ [128] ++ List.replicate k (0 : UInt8)).length = p.length + 1 + k := by simp; omega
    rw [tl] at x8 x9
    have cnt0 := hid (show countOf b wr = p.length + 1 + k by unfold countOf; rw [x9]; simp; omega)
    obtain ⟨m, hm⟩ : ∃ m, m = (p.length + 1 + k) % 64 := ⟨_, rfl⟩
    rw [← hm] at x8
    have hm' := hid hm
    have sB := Nat.le_trans hB hBW.size
    have HH := hid hH
    clear h2 tl hm x9 hH
    by_cases h56 : m = 56
    · have hk2 : k = nn := by have := hM.out k (by have := hm'.out; omega); omega
      have HQ := HH.out
      rw [hk2] at HQ
      have t56 : ((m : Int) != 56) = false := by simp; omega
      obtain ⟨q, hq⟩ : ∃ q, q = p ++ [128] ++ List.replicate nn (0 : UInt8) := ⟨_, rfl⟩
      rw [← hq] at HQ
      have HQE := hid hq
      have ql : q.length = p.length + 1 + nn := by rw [hq]; simp; omega
      clear hk HH hq hk2 hm' cnt0 hM hN
      go_wp2
      go_loopw [4] (fun i wx => ∃ (j : Nat) (y : Int), j ≤ 8 ∧ Hid (y = 56 - 8 * (j : Int)) ∧ i = .int .i64 y ∧ HasT wx B b (q ++ (eightBytes (8 * p.length)).take j) ∧ Table wx ∧ Below B w wx) (fun i _ => (intOf i + 8).toNat)
      case atStart => exact ⟨0, 56, by omega, hid (by omega), rfl, by simpa using HQ, hT, hBW⟩
      case round =>
        clear HQ hT hBW sB x8 t56 h56 m
        obtain ⟨j, y, hj, hy, rfl, hH, hT, hBW⟩ := hrel
        have sB := Nat.le_trans hB hBW.size
        by_cases h8 : j < 8
        · obtain ⟨m, hm⟩ : ∃ m, m = 56 - 8 * j := ⟨_, rfl⟩
          obtain rfl : y = (m : Int) := by have := hy.out; omega
          have hm56 : m ≤ 56 := by omega
          have hm64 : m < 64 := by omega
          have G1 := eightBytes_get (8 * p.length) j h8
          rw [← hm] at G1
          have Bf := byte_of (8 * p.length) m
          rw [show (((8 * p.length : Nat) : Int)) = (p.length : Int) * 8 by omega] at Bf
          obtain ⟨xb, hxb⟩ : ∃ x, x = UInt8.ofNat (8 * p.length / 2 ^ m) := ⟨_, rfl⟩
          rw [← hxb] at G1 Bf
          have el : (eightBytes (8 * p.length)).length = 8 := by simp [eightBytes]
          have HW := hid (write_lit xb hT hTB sB hH (by rw [List.length_append, List.length_take, ql]; omega))
          have HG := hid G1
          have Hj : Hid ((m : Int) - 8 = 56 - 8 * ((j + 1 : Nat) : Int)) := hid (by have := hy.out; omega)
          have w8 : wrap64 ((m : Int) - 8) = (m : Int) - 8 := by unfold wrap64; omega
          clear hm hxb G1 hH hT hy
          go_wp2_with fail
          refine HW.out.mono ?_
          rintro e w2 ⟨rfl, h2, T2, B2⟩
          rw [List.append_assoc, ← HG.out] at h2
          go_wp2
          exact ⟨⟨j + 1, (m : Int) - 8, by omega, Hj, by simp, h2, T2, hBW.trans B2⟩, by simp [intOf]; omega⟩
        · obtain rfl : j = 8 := by omega
          obtain rfl : y = -8 := by have := hy.out; omega
          have eP : q ++ (eightBytes (8 * p.length)).take 8 = padded p := by
            rw [HQE.out, List.take_of_length_le (by simp [eightBytes])]
            unfold padded
            rw [← HNN.out]
          rw [eP] at hH
          obtain ⟨_, R1, c1, h2, _⟩ := id hH
          have lF : (run first (padded p)).1.length = 8 := run_length rfl _
          obtain ⟨FF, hFF⟩ : ∃ f, f = (run first (padded p)).1 := ⟨_, rfl⟩
          rw [← hFF] at h2 lF
          have hR2 : res = bytesOf FF := by rw [HRES.out, hFF]; rfl
          have HR2 := hid hR2
          clear hR2 hFF eP hy hT
          have hb2 := below_alloc (Below.refl _ wr) (.cells #[.pointer none, .slice none 0 0] 118)
          have h3 := h2.below hb2
          have IB0 := Lib.fresh_isBuilder 118 5 wr
          have hBW2 := hBW.alloc sB (.cells #[.pointer none, .slice none 0 0] 118)
          obtain ⟨s0, s1, s2, s3, s4, s5, s6, s7, rfl⟩ := eight lF
          have y0 := h3.cell 0 (by omega)
          have y1 := h3.cell 1 (by omega)
          have y2 := h3.cell 2 (by omega)
          have y3 := h3.cell 3 (by omega)
          have y4 := h3.cell 4 (by omega)
          have y5 := h3.cell 5 (by omega)
          have y6 := h3.cell 6 (by omega)
          have y7 := h3.cell 7 (by omega)
          simp only [List.getD_cons_zero, List.getD_cons_succ] at y0 y1 y2 y3 y4 y5 y6 y7
          obtain ⟨bb, hbb⟩ : ∃ b, b = wr.heap.size := ⟨_, rfl⟩
          have IB1 : IsB B bb (bytesOf ([s0, s1, s2, s3, s4, s5, s6, s7].take 0)) (wr.alloc (.cells #[.pointer none, .slice none 0 0] 118)) := by
            rw [hbb]
            rcases IB0 with ⟨_, k⟩ | ⟨_, k⟩
            · obtain ⟨v, k1, k2, k3⟩ := k
              refine .inl ⟨sB, v, k1, ⟨k2.1, ?_⟩, k3⟩
              rcases k2.2 with k2 | ⟨g, cap, cur, e, hb, r⟩
              · exact .inl k2
              · exact .inr ⟨g, cap, cur, e, Nat.le_trans sB hb, r⟩
            · obtain ⟨v, k1, k2, k3⟩ := k
              refine .inr ⟨sB, v, k1, ⟨k2.1, ?_⟩, k3⟩
              rcases k2.2 with k2 | ⟨g, cap, cur, e, hb, r⟩
              · exact .inl k2
              · exact .inr ⟨g, cap, cur, e, Nat.le_trans sB hb, r⟩
          clear IB0 h2 h3 hH
          obtain ⟨FF, hFF⟩ : ∃ f, f = [s0, s1, s2, s3, s4, s5, s6, s7] := ⟨_, rfl⟩
          have i0 : ∀ (k : Nat), k < 8 → ∀ w : World, (Instr.index 112 (.agg #[.int .u32 (s0.toNat : Int), .int .u32 (s1.toNat : Int), .int .u32 (s2.toNat : Int), .int .u32 (s3.toNat : Int), .int .u32 (s4.toNat : Int), .int .u32 (s5.toNat : Int), .int .u32 (s6.toNat : Int), .int .u32 (s7.toNat : Int)]) (.int .i64 (k : Int))).run Tryd.prog w = .ok (.int .u32 ((FF.getD k 0).toNat : Int)) w := fun k hk w => by
            rw [hFF]
            exact index8 [s0, s1, s2, s3, s4, s5, s6, s7] rfl k hk
          have I0 := hid i0
          have lF8 : FF.length = 8 := by rw [hFF]; rfl
          rw [← hFF] at IB1 HR2
          clear i0 hFF
          go_wp2
          rw [← hbb]
          clear y0 y1 y2 y3 y4 y5 y6 y7 hb2 hBW hbb
          go_loopw [41] (fun i wx => ∃ k : Nat, k ≤ 8 ∧ i = .int .i64 k ∧ IsB B bb (bytesOf (FF.take k)) wx ∧ Below B w wx) (fun i _ => 8 - (intOf i).toNat)
          case atStart => exact ⟨0, Nat.zero_le _, rfl, IB1, hBW2⟩
          case round =>
            clear IB1 hBW2
            obtain ⟨k, hk, rfl, hI, hBW⟩ := hrel
            have sB := Nat.le_trans hB hBW.size
            by_cases hlt : k < 8
            · have t8 : decide ((k : Int) < 8) = true := by simp; omega
              have ik := I0.out k hlt
              obtain ⟨x, hx⟩ : ∃ x, x = FF.getD k 0 := ⟨_, rfl⟩
              rw [← hx] at ik
              have HN := hid (bytesOf_next FF k (by omega))
              rw [← hx] at HN
              have lb : (bytesOf (FF.take k)).length ≤ 32 := by rw [bytesOf_length, List.length_take]; omega
              clear hx
              go_wp2
              go_loopw [8] (fun i wy => ∃ (j : Nat) (y : Int), j ≤ 4 ∧ Hid (y = 24 - 8 * (j : Int)) ∧ i = .int .i64 y ∧ IsB B bb (bytesOf (FF.take k) ++ (fourBytes x).take j) wy ∧ Below B w wy) (fun i _ => (intOf i + 8).toNat)
              case atStart => exact ⟨0, 24, by omega, hid (by omega), rfl, by simpa using hI, hBW⟩
              case round =>
                clear hI hBW sB ik
                obtain ⟨j, y, hj, hy, rfl, hI, hBW⟩ := hrel
                have sB := Nat.le_trans hB hBW.size
                by_cases h4 : j < 4
                · obtain ⟨m, hm⟩ : ∃ m, m = 24 - 8 * j := ⟨_, rfl⟩
                  obtain rfl : y = (m : Int) := by have := hy.out; omega
                  have hm24 : m ≤ 24 := by omega
                  have hm32 : m < 32 := by omega
                  have G1 := fourBytes_get x j h4
                  rw [← hm] at G1
                  have Bf := byte_of x.toNat m
                  obtain ⟨xb, hxb⟩ : ∃ z, z = UInt8.ofNat (x.toNat / 2 ^ m) := ⟨_, rfl⟩
                  rw [← hxb] at G1 Bf
                  have l4 := fourBytes_length x
                  have HW := hid (writeByte_any B bb _ xb wr hI (by rw [List.length_append, List.length_take]; omega) sB)
                  have HG := hid G1
                  have Hj : Hid ((m : Int) - 8 = 24 - 8 * ((j + 1 : Nat) : Int)) := hid (by have := hy.out; omega)
                  have w8 : wrap64 ((m : Int) - 8) = (m : Int) - 8 := by unfold wrap64; omega
                  clear hm hxb G1 hI hy
                  go_wp2_with fail
                  refine HW.out.mono ?_
                  rintro e w2 ⟨rfl, h2, B2⟩
                  rw [List.append_assoc, ← HG.out] at h2
                  go_wp2
                  go_roundw
                  case rel => exact ⟨j + 1, (m : Int) - 8, by omega, Hj, by simp, h2, hBW.trans B2⟩
                  case measure => simp [intOf]; omega
                · obtain rfl : j = 4 := by omega
                  obtain rfl : y = -8 := by have := hy.out; omega
                  have e4 : (fourBytes x).take 4 = fourBytes x := List.take_of_length_le (by rw [fourBytes_length]; exact Nat.le_refl _)
                  rw [e4, ← HN.out] at hI
                  clear e4
                  go_wp2
                  go_roundw
                  case rel => exact ⟨k + 1, by omega, by go_num, hI, hBW⟩
                  case measure => simp [intOf]; omega
            · obtain rfl : k = 8 := by omega
              rw [List.take_of_length_le (by omega), ← HR2.out] at hI
              have hne : res ≠ [] := fun e => by
                have := bytesOf_length FF
                rw [← HR2.out, e] at this
                simp at this
                omega
              have HS := hid (string_some B bb res wr hI hne)
              clear hI hne
              go_wp2_with fail
              refine HS.out.mono ?_
              rintro e w2 ⟨rfl, B2⟩
              go_wp2
              go_ret
              exact ⟨rfl, hBW.trans B2⟩
    · have t56 : ((m : Int) != 56) = true := by simp; omega
      have hk2 : k < nn := by
        rcases Nat.lt_or_ge k nn with e | e
        · exact e
        · have : k = nn := by omega
          have := hN.out
          have := hm'.out
          subst_vars
          omega
      have HW := hid (write_lit 0 hT hTB sB HH.out (by simp; omega))
      go_wp2_with fail
      refine HW.out.mono ?_
      rintro e w2 ⟨rfl, h2, T2, B2⟩
      have cnt2 := hid (show countOf b w2 = p.length + 1 + (k + 1) by
        obtain ⟨_, R, c, h3, _⟩ := h2
        unfold countOf; rw [h3.cells.2]; simp; omega)
      go_wp2
      exact ⟨⟨k + 1, hk2, by simpa [List.replicate_succ'] using h2, T2, hBW.trans B2⟩, by rw [cnt0.out, cnt2.out]; omega⟩
end Go.Proofs.YtmbgfjcmdolggaaDoor

/- The walks of sha.Sum and of the reference's constants. -/
namespace Go.Proofs.YtmbgfjcmdolggaaDoor
open Go.RowKit PrintLast

theorem Table.from_ {B : Nat} {w w' : World} (h : Table w) (hb : Below B w w') (hB : 0 < B) : Table w' := by
  obtain ⟨t, fr, h⟩ := h
  exact ⟨t, fr, by rw [hb.block _ hB]; exact h⟩

/-- sha.Sum of any bytes. -/
theorem sum_any {w : World} {A : Option Addr} {c : Nat} {p : List UInt8} (hT : Table w) (hp : BSA w A c p) (hn : p.length ≤ 1000000000000) :
    Calls Tryd.prog 47 #[.slice A p.length c] w fun e w' => e = .returned (.string ⟨(sum256 p).toArray⟩) ∧ Below w.heap.size w w' := by
  have hpb := hid (show ∀ ad, A = some ad → 0 < p.length → ad.block ≠ w.heap.size from fun ad e hl => by
    have := World.block_lt_of_cell? w _ (hp.2.2.2 ad e 0 hl)
    have e0 : (ad.add 0).block = ad.block := by unfold Addr.add; split <;> rfl
    omega)
  have hT0 := hT.pos
  go_enter Tryd.func47, Tryd.ntmps47
  go_wp2_with fail
  refine fresh_any.mono ?_
  rintro e w1 ⟨rfl, h1, b1⟩
  have HW := hid (write_any (hT.below b1) hT0 b1.size (Nat.le_refl _) (l := []) h1 (WaitAt.nil w1) (fun ad e => by cases e) (hp.below b1) hpb.out (.inl rfl) (by omega) (by simp; omega))
  clear h1 hpb
  go_wp2_with fail
  refine HW.out.mono ?_
  rintro e w2 ⟨rfl, ⟨R', c', k1, k2, k3⟩, k4⟩
  have b2 : Below w.heap.size w w2 := b1.trans k4
  have HT : HasT w2 w.heap.size w.heap.size p := ⟨Nat.le_refl _, R', c', by simpa using k1, by simpa using k2, k3⟩
  have HE := hid (end_any (hT.from_ b2 hT0) hT0 b2.size HT hn)
  clear HT k1 k2 k3 k4 HW
  go_wp2_with fail
  refine HE.out.mono ?_
  rintro e w3 ⟨rfl, b3⟩
  go_wp2
  go_ret
  exact ⟨rfl, b2.trans b3⟩

theorem below_row {B g : Nat} {w w' : World} (h : Below B w w') (hg : B ≤ g) (cs : Array Value) : Below B w (w'.setRow g cs) :=
  ⟨h.os, h.tape, h.output, by rw [setRow_size]; exact h.size, fun k hk => (setRow_other w' g k cs (by omega)).trans (h.block k hk)⟩
theorem below_set {B g i : Nat} {w w' : World} (h : Below B w w') (hg : B ≤ g) (v : Value) : Below B w (w'.setCell ⟨g, i, none⟩ v) := h.setCell (p := ⟨g, i, none⟩) hg v
set_option maxRecDepth 100000 in
set_option maxHeartbeats 6400000 in
theorem constants_any {w : World} : Calls Tryd.prog 55 #[] w fun e w' => e = .returned (.agg (u32s roundK)) ∧ Below w.heap.size w w' := by
  go_enter Tryd.func55, Tryd.ntmps55
  go_wp2_with (refine wpList_store_row rfl 95 (.tmp 0) (.tmp 1) rfl w.heap.size (u32s roundK) rfl rfl 95 _ (heap_alloc_new w _) (by kernel_rfl) rfl (u32s_one _) ?_)
  refine bodyPost_ret (results_cell_row rfl _ _ w.heap.size 95 (u32s roundK) (0, 0) _ rfl (setRow_heap _ w.heap.size _ _ _ _ (heap_alloc_new w _)) Tryd.underlying95 rfl (by kernel_rfl)) rfl ?_
  exact ⟨rfl, below_row (below_alloc (Below.refl _ w) _) (Nat.le_refl _) _⟩
end Go.Proofs.YtmbgfjcmdolggaaDoor

/- What the walk of the reference's Sum needs of rows of words. -/
namespace Go.Proofs.YtmbgfjcmdolggaaDoor
open Go.RowKit PrintLast

/-- The first i words of F, the rest noughts: 64 of them. -/
def wrow (F : Nat → UInt32) (i : Nat) : List UInt32 := (List.range 64).map fun j => if j < i then F j else 0
theorem wrow_length (F : Nat → UInt32) (i : Nat) : (wrow F i).length = 64 := by simp [wrow]
theorem wrow_get (F : Nat → UInt32) (i j : Nat) (hj : j < 64) : (wrow F i).getD j 0 = if j < i then F j else 0 := by
  simp [wrow, List.getD_eq_getElem?_getD, hj]
theorem wrow_zero (F : Nat → UInt32) : wrow F 0 = List.replicate 64 0 := by simp [wrow]; rfl
theorem wrow_next (F : Nat → UInt32) (i : Nat) (_hi : i < 64) : (wrow F i).set i (F i) = wrow F (i + 1) := by
  apply List.ext_getElem
  · simp [wrow]
  · intro j h1 h2
    have hj : j < 64 := by simpa [wrow] using h2
    rw [List.getElem_set]
    by_cases e : i = j
    · subst e
      simp [wrow]
    · rw [if_neg e]
      simp only [wrow, List.getElem_map, List.getElem_range]
      by_cases h : j < i
      · rw [if_pos h, if_pos (by omega)]
      · rw [if_neg h, if_neg (by omega)]
/-- Four bytes as a word: as Read spells them. -/
theorem be_read (l : List UInt8) (h : l.length = 4) : ((be l).toNat : Int) = (readNat l : Int) := by
  match l, h with
  | [a, b, c, d], _ =>
    have ha := a.toNat_lt
    have hb := b.toNat_lt
    have hc := c.toNat_lt
    have hd := d.toNat_lt
    have key : ∀ (x : UInt32) (y : UInt8) (n : Nat), x.toNat = n → n < 16777216 → (wOr (wShl x 8) y.toUInt32).toNat = 256 * n + y.toNat := fun x y n hx hn => by
      have hy := y.toNat_lt
      unfold wOr wShl
      rw [UInt32.toNat_or, UInt32.toNat_shiftLeft, hx, UInt8.toNat_toUInt32]
      have e8 : (UInt32.ofNat 8).toNat % 32 = 8 := rfl
      rw [e8, Nat.shiftLeft_eq, Nat.mod_eq_of_lt (by omega)]
      have := Nat.two_pow_add_eq_or_of_lt (i := 8) (b := y.toNat) (by omega) n
      rw [Nat.mul_comm n (2 ^ 8)]
      omega
    have e0 := key 0 a 0 rfl (by omega)
    have e1 := key _ b _ e0 (by omega)
    have e2 := key _ c _ e1 (by omega)
    have e3 := key _ d _ e2 (by omega)
    have : (be [a, b, c, d]).toNat = readNat [a, b, c, d] := by
      simp only [be, readNat, List.foldl_cons, List.foldl_nil]
      simpa using e3
    omega
/-- Moved down by one, from the last place to place j. -/
def sh (l : List UInt32) (j : Nat) : List UInt32 := l.take (j + 1) ++ (l.drop j).take (7 - j)
theorem sh_start {l : List UInt32} (h : l.length = 8) : sh l 7 = l := by
  obtain ⟨a, b, c, d, e, f, g, i, rfl⟩ := eight h
  rfl
theorem sh_length {l : List UInt32} (h : l.length = 8) {j : Nat} (hj : j ≤ 7) : (sh l j).length = 8 := by simp [sh, h]; omega
theorem sh_next {l : List UInt32} (h : l.length = 8) {j : Nat} (h1 : j + 1 ≤ 7) : (sh l (j + 1)).set (j + 1) ((sh l (j + 1)).getD j 0) = sh l j := by
  obtain ⟨a, b, c, d, e, f, g, i, rfl⟩ := eight h
  have : j = 0 ∨ j = 1 ∨ j = 2 ∨ j = 3 ∨ j = 4 ∨ j = 5 ∨ j = 6 := by omega
  rcases this with rfl | rfl | rfl | rfl | rfl | rfl | rfl <;> rfl

/-- One block more. -/
theorem run_next (s : List UInt32) (q : List UInt8) (k : Nat) (h : 64 * (k + 1) ≤ q.length) : (run s (q.take (64 * (k + 1)))).1 = comp (wordsOf ((q.drop (64 * k)).take 64)) (run s (q.take (64 * k))).1 := by
  have e : q.take (64 * (k + 1)) = q.take (64 * k) ++ (q.drop (64 * k)).take 64 := by
    rw [show 64 * (k + 1) = 64 * k + 64 by omega, List.take_add]
  have hr : (run s (q.take (64 * k))).2 = [] := by
    apply List.eq_nil_of_length_eq_zero
    rw [run_rest_length, List.length_take]
    omega
  rw [e, run_append, hr, List.nil_append]
  have hl : ((q.drop (64 * k)).take 64).length = 64 := by simp; omega
  rw [run_block (by omega), List.take_of_length_le (by omega), run_short (by simp)]
theorem chunk_drop (q : List UInt8) (a j : Nat) (hj : j < 16) : chunk ((q.drop a).take 64) j = (q.drop (a + 4 * j)).take 4 := by
  unfold chunk
  rw [List.drop_take, List.drop_drop, List.take_take]
  congr 1
  omega
theorem W_first (q : List UInt8) (j : Nat) (hj : j < 16) : W (wordsOf q) j = be (chunk q j) := by
  rw [W_low (wordsOf_length q) hj]
  simp [wordsOf, List.getD_eq_getElem?_getD, hj]
end Go.Proofs.YtmbgfjcmdolggaaDoor

/- The walk of the reference's Sum. -/
namespace Go.Proofs.YtmbgfjcmdolggaaDoor
open Go.RowKit PrintLast

theorem conv_row {w : World} {B c : Nat} {A : Option Addr} {l : List UInt8} (h : Row w B A c l) : (convert 23 9 (.slice A l.length c)).run Tryd.prog w = .ok (.string ⟨l.toArray⟩) w := by
  have hb := h.bsa
  rcases h.2 with ⟨e, h0⟩ | ⟨g, cap, cur, e, _⟩
  · have hl : l = [] := List.eq_nil_of_length_eq_zero h0
    subst hl
    have eA : A = none ∧ c = 0 := by simpa using e
    obtain ⟨rfl, rfl⟩ := eA
    exact run_convert_bytes_nil w 23 5 Tryd.underlying23 Tryd.underlying5 0 0 9 Tryd.underlying9
  · cases e
    rw [run_convert_bytes_arg w 23 5 Tryd.underlying23 Tryd.underlying5 g 0 l.length c (l.map fun x => (x.toNat : Int)) (by simp) (fun i hi => ?_) 9 Tryd.underlying9]
    · congr 2
      unfold strOfNums
      congr 2
      rw [List.map_map]
      conv => rhs; rw [← List.map_id l]
      apply List.map_congr_left
      intro x _
      simp
    · have := hb.2.2.2 _ rfl i hi
      rw [add_plain] at this
      rw [Nat.zero_add, this]
      simp [List.getD_eq_getElem?_getD, hi]
def sliceLen (v : Value) : Nat := match v with
  | .slice _ n _ => n
  | _ => 0
def zeros64 : List UInt32 := List.replicate 64 0
theorem zeros64_row (F : Nat → UInt32) : zeros64 = wrow F 0 := (wrow_zero F).symm
theorem Row.other {w : World} {B c : Nat} {A : Option Addr} {l : List UInt8} (h : Row w B A c l) {b : Nat} {cs : Array Value} {t : TypeId} {fr : Nat × Nat} (hb : w.heap[b]? = some (.cells cs t fr)) (ht : t ≠ 5) : ∀ ad, A = some ad → ad.block ≠ b := (WaitAt.of_own h).other hb ht
theorem Row.keeps {S : Nat → Prop} {w w' : World} {B c : Nat} {A : Option Addr} {l : List UInt8} (h : Row w B A c l) (hk : Keeps S w w') (hn : ∀ ad, A = some ad → ¬ S ad.block) : Row w' B A c l :=
  hk.own h (fun k e => by
    cases A with
    | none => cases e
    | some ad => simp only [Value.ownBlock, Option.some.injEq] at e; subst e; exact hn ad rfl)
theorem Row.place {w : World} {B c : Nat} {A : Option Addr} {l : List UInt8} (h : Row w B A c l) (hl : 0 < l.length) : ∃ g, A = some ⟨g, 0, none⟩ := by
  rcases h.2 with ⟨_, h0⟩ | ⟨g, cap, cur, e, _⟩
  · omega
  · cases e; exact ⟨g, rfl⟩

theorem word_not' (e : UInt32) : (4294967295 - (e.toNat : Int)) % 4294967296 = ((wNot e).toNat : Int) := by
  rw [word_not e]
  exact Int.emod_eq_of_lt (by omega) (word_lt _)
theorem W_split {F : Nat → UInt32} (h : ∀ i, 16 ≤ i → i < 64 → F i = wAdd (wAdd (wAdd (F (i - 16)) (F (i - 7))) (sig0 (F (i - 15)))) (sig1 (F (i - 2)))) (k : Nat) (h16 : 16 ≤ k) (hk : k < 64) :
    ∃ j2 j7 j15 j16 : Nat, ((k : Int) - 2 = (j2 : Int) ∧ wrap64 (j2 : Int) = (j2 : Int) ∧ (((j2 : Int) < 64) = True) ∧ j2 < 64 ∧ j2 < k) ∧ ((k : Int) - 7 = (j7 : Int) ∧ wrap64 (j7 : Int) = (j7 : Int) ∧ (((j7 : Int) < 64) = True) ∧ j7 < 64 ∧ j7 < k) ∧
      ((k : Int) - 15 = (j15 : Int) ∧ wrap64 (j15 : Int) = (j15 : Int) ∧ (((j15 : Int) < 64) = True) ∧ j15 < 64 ∧ j15 < k) ∧ ((k : Int) - 16 = (j16 : Int) ∧ wrap64 (j16 : Int) = (j16 : Int) ∧ (((j16 : Int) < 64) = True) ∧ j16 < 64 ∧ j16 < k) ∧
      F k = wAdd (wAdd (wAdd (F j16) (F j7)) (sig0 (F j15))) (sig1 (F j2)) := by
  have key : ∀ d : Nat, 0 < d → d ≤ 16 → (k : Int) - (d : Int) = ((k - d : Nat) : Int) ∧ wrap64 ((k - d : Nat) : Int) = ((k - d : Nat) : Int) ∧ ((((k - d : Nat) : Int) < 64) = True) ∧ k - d < 64 ∧ k - d < k := fun d h0 h1 => by
    have e : ∃ n, n = k - d := ⟨_, rfl⟩
    obtain ⟨n, hn⟩ := e
    rw [← hn]
    refine ⟨by omega, by unfold wrap64; omega, by simp; omega, by omega, by omega⟩
  exact ⟨k - 2, k - 7, k - 15, k - 16, key 2 (by omega) (by omega), key 7 (by omega) (by omega), key 15 (by omega) (by omega), key 16 (by omega) (by omega), h k h16 hk⟩

set_option maxRecDepth 100000 in
set_option maxHeartbeats 12800000 in
theorem rsum_any {w : World} {A : Option Addr} {c : Nat} {p : List UInt8} (hp : BSA w A c p) (hn : p.length ≤ 1000000000000) :
    Calls Tryd.prog 31 #[.slice A p.length c] w fun e w' => e = .returned (.string ⟨(sum256 p).toArray⟩) ∧ Below w.heap.size w w' := by
  obtain ⟨res, hres⟩ : ∃ r, r = sum256 p := ⟨_, rfl⟩
  rw [← hres]
  have HRES := hid hres
  obtain ⟨B, hB⟩ : ∃ B, B = w.heap.size := ⟨_, rfl⟩
  rw [← hB]
  have HB := hid hB
  have hNsp := hid (noughts_spec p.length)
  have hNmin := hid (noughts_min p.length)
  obtain ⟨nn, hnn⟩ : ∃ n, n = noughts p.length := ⟨_, rfl⟩
  rw [← hnn] at hNsp hNmin
  have HNN := hid hnn
  have hn64 : nn ≤ 64 := by rw [hnn]; unfold noughts; omega
  have z64 : #[Value.int .u32 0, .int .u32 0, .int .u32 0, .int .u32 0, .int .u32 0, .int .u32 0, .int .u32 0, .int .u32 0, .int .u32 0, .int .u32 0, .int .u32 0, .int .u32 0, .int .u32 0, .int .u32 0, .int .u32 0, .int .u32 0, .int .u32 0, .int .u32 0, .int .u32 0, .int .u32 0, .int .u32 0, .int .u32 0, .int .u32 0, .int .u32 0, .int .u32 0, .int .u32 0, .int .u32 0, .int .u32 0, .int .u32 0, .int .u32 0, .int .u32 0, .int .u32 0, .int .u32 0, .int .u32 0, .int .u32 0, .int .u32 0, .int .u32 0, .int .u32 0, .int .u32 0, .int .u32 0, .int .u32 0, .int .u32 0, .int .u32 0, .int .u32 0, .int .u32 0, .int .u32 0, .int .u32 0, .int .u32 0, .int .u32 0, .int .u32 0, .int .u32 0, .int .u32 0, .int .u32 0, .int .u32 0, .int .u32 0, .int .u32 0, .int .u32 0, .int .u32 0, .int .u32 0, .int .u32 0, .int .u32 0, .int .u32 0, .int .u32 0, .int .u32 0] = u32s zeros64 := rfl
  clear hres hnn hB
  go_enter Tryd.func31, Tryd.ntmps31
  go_wp2_with fail
  refine constants_any.mono ?_
  rintro e w1 ⟨rfl, b1⟩
  have hp1 := hp.below b1
  rw [← HB.out] at b1
  have s1 : B ≤ w1.heap.size := by rw [HB.out]; rw [HB.out] at b1; exact b1.size
  clear hp
  go_wp2_with (refine wpList_store_row rfl 95 (.tmp 3) (.tmp 23) rfl w1.heap.size (u32s roundK) rfl rfl 95 _ (heap_alloc_new w1 _) (by kernel_rfl) rfl (u32s_one _) ?_)
  have sz2 : ((w1.alloc (.cells (u32s zeros64) 95)).setRow w1.heap.size (u32s roundK)).heap.size = w1.heap.size + 1 := by simp
  have k2 : WordsAt ((w1.alloc (.cells (u32s zeros64) 95)).setRow w1.heap.size (u32s roundK)) w1.heap.size roundK 95 := setRow_heap _ w1.heap.size _ _ _ _ (heap_alloc_new w1 _)
  have b2 : Below B w ((w1.alloc (.cells (u32s zeros64) 95)).setRow w1.heap.size (u32s roundK)) := below_row (b1.alloc s1 _) s1 _
  have hp2 : BSA ((w1.alloc (.cells (u32s zeros64) 95)).setRow w1.heap.size (u32s roundK)) A c p := hp1.below (below_row (below_alloc (Below.refl _ w1) _) (Nat.le_refl _) _)
  generalize ((w1.alloc (.cells (u32s zeros64) 95)).setRow w1.heap.size (u32s roundK)) = W2 at *
  have h3 : WordsAt (W2.alloc (.cells #[Value.int .u32 1779033703, .int .u32 3144134277, .int .u32 1013904242, .int .u32 2773480762, .int .u32 1359893119, .int .u32 2600822924, .int .u32 528734635, .int .u32 1541459225] 97)) (w1.heap.size + 1) first 97 := by rw [← sz2]; exact heap_alloc_new W2 _
  have a3 := below_alloc (Below.refl _ W2) (.cells #[Value.int .u32 1779033703, .int .u32 3144134277, .int .u32 1013904242, .int .u32 2773480762, .int .u32 1359893119, .int .u32 2600822924, .int .u32 528734635, .int .u32 1541459225] 97)
  have k3 := k2.below a3
  have b3 : Below B w (W2.alloc (.cells #[Value.int .u32 1779033703, .int .u32 3144134277, .int .u32 1013904242, .int .u32 2773480762, .int .u32 1359893119, .int .u32 2600822924, .int .u32 528734635, .int .u32 1541459225] 97)) := b2.alloc (by omega) _
  have hp3 := hp2.below a3
  have sz3 : (W2.alloc (.cells #[Value.int .u32 1779033703, .int .u32 3144134277, .int .u32 1013904242, .int .u32 2773480762, .int .u32 1359893119, .int .u32 2600822924, .int .u32 528734635, .int .u32 1541459225] 97)).heap.size = w1.heap.size + 1 + 1 := by simp [sz2]
  generalize (W2.alloc (.cells #[Value.int .u32 1779033703, .int .u32 3144134277, .int .u32 1013904242, .int .u32 2773480762, .int .u32 1359893119, .int .u32 2600822924, .int .u32 528734635, .int .u32 1541459225] 97)) = W3 at *
  have l4 := lit_bsa W3 128
  rw [sz3] at l4
  have a4 := below_alloc (Below.refl _ W3) (.cells #[.int .u8 ((128 : UInt8).toNat : Int)] 5)
  have h4 := h3.below a4
  have k4 := k3.below a4
  have b4 := b3.alloc (by omega) (.cells #[.int .u8 ((128 : UInt8).toNat : Int)] 5)
  have hp4 := hp3.below a4
  have sz4 : (W3.alloc (.cells #[.int .u8 ((128 : UInt8).toNat : Int)] 5)).heap.size = w1.heap.size + 1 + 1 + 1 := by simp [sz3]
  have HJ := hid (join_any hp4 l4 (by simp; omega))
  obtain ⟨gk, hgk⟩ : ∃ g, g = w1.heap.size := ⟨_, rfl⟩
  obtain ⟨gh, hgh⟩ : ∃ g, g = w1.heap.size + 1 := ⟨_, rfl⟩
  rw [← hgk] at k4
  rw [← hgh] at h4
  have hkh : ¬ gk = gh := by omega
  have hkB : B ≤ gk := by omega
  have hhB : B ≤ gh := by omega
  clear sz2 k2 b2 hp2 h3 a3 k3 b3 hp3 l4 a4 hp4 hp1 b1
  refine HJ.out.mono ?_
  rintro e w5 ⟨R5, c5, rfl, hM⟩
  have s4 : B ≤ (W3.alloc (.cells #[.int .u8 ((128 : UInt8).toNat : Int)] 5)).heap.size := by omega
  have b5 := b4.trans (hM.2.2.mono s4)
  have r5 := (hM.row (by simp)).lower s4
  have h5 := h4.below hM.2.2
  have k5 := k4.below hM.2.2
  clear HJ hM h4 k4 b4 sz4 s4
  rw [← hgh, ← hgk]
  clear hgk hgh sz3 s1
  have P5 : ∃ (k L : Nat) (R : Option Addr) (c : Nat), k ≤ nn ∧ Hid (L = p.length + 1 + k) ∧ Value.slice R5 (p.length + 1) c5 = .slice R L c ∧ Row w5 B R c (p ++ [128] ++ List.replicate k 0) ∧ WordsAt w5 gk roundK 95 ∧ WordsAt w5 gh first 97 ∧ Below B w w5 :=
    ⟨0, p.length + 1, R5, c5, Nat.zero_le _, hid rfl, rfl, by simpa using r5, k5, h5, b5⟩
  clear r5 k5 h5 b5
  go_wp2
  go_loopw [5] (fun v wr => ∃ (k L : Nat) (R : Option Addr) (c : Nat), k ≤ nn ∧ Hid (L = p.length + 1 + k) ∧ v = .slice R L c ∧ Row wr B R c (p ++ [128] ++ List.replicate k 0) ∧ WordsAt wr gk roundK 95 ∧ WordsAt wr gh first 97 ∧ Below B w wr) (fun v _ => p.length + 1 + nn - sliceLen v)
  case atStart => exact P5
  case round =>
    clear P5
    obtain ⟨k, L, R, c', hk, hL, rfl, hR, hK, hH, hBW⟩ := hrel
    have hBw : B ≤ w.heap.size := by rw [HB.out]; exact Nat.le_refl _
    have sB := Nat.le_trans hBw hBW.size
    obtain ⟨m, hm⟩ : ∃ m, m = L % 64 := ⟨_, rfl⟩
    have tm : ((L : Int).tmod 64) = (m : Int) := by rw [Int.tmod_eq_emod_of_nonneg (by omega)]; omega
    have ll : (p ++ [128] ++ List.replicate k (0 : UInt8)).length = L := by rw [hL.out]; simp; omega
    have hLb : L ≤ 2000000000000 := by have := hL.out; omega
    have hm' := hid hm
    clear hm
    by_cases h56 : m = 56
    · have hk2 : k = nn := by have := hNmin.out k (by have := hm'.out; have := hL.out; omega); omega
      have t56 : ((m : Int) != 56) = false := by simp; omega
      subst hk2
      have HNum := num_any (w := wr) (n := 8 * p.length) (m := 8) (Nat.le_refl _)
      have e8 : ((8 * p.length : Nat) : Int) = 8 * (p.length : Int) := by omega
      rw [e8] at HNum
      have HN := hid HNum
      have a8 : (8 * (p.length : Int)) % 18446744073709551616 = 8 * (p.length : Int) := by omega
      have aq : (p.length : Int) % 18446744073709551616 = (p.length : Int) := by omega
      clear HNum e8
      go_wp2_with fail
      refine HN.out.mono ?_
      rintro e w6 ⟨A6, c6, rfl, r6, n6, b6⟩
      have n6' := n6 (by omega)
      have hR6 := hR.below b6
      have hK6 := hK.below b6
      have hH6 := hH.below b6
      have hB6 := hBW.trans (b6.mono sB)
      have s6 := Nat.le_trans sB b6.size
      obtain ⟨a6, rfl⟩ : ∃ a, A6 = some a := by cases A6 with
        | none => exact absurd rfl n6'
        | some a => exact ⟨a, rfl⟩
      have l8 := numBytes_length (8 * p.length) 8
      obtain ⟨QL, hQL0⟩ : ∃ n, n = L + 8 := ⟨_, rfl⟩
      have hQL := hid hQL0
      clear hQL0
      clear HN hR hK hH hBW n6 n6'
      go_wp2_with (refine wpList_appR rfl (.tmp 35) (.tmp 40) rfl B s6 R c' (p ++ [128] ++ List.replicate k 0) (by rw [ll]; rfl) hR6 a6 c6 (numBytes (8 * p.length) 8) (by rw [l8]; rfl) r6.bsa (by rw [ll, l8]; omega) QL (by rw [ll, l8]; exact hQL.out.symm) ?_)
      intro R7 c7 w7 r7 b7 K7 n7
      have o1 := hR6.other hK6 (by decide)
      have o2 := hR6.other hH6 (by decide)
      have hK7 : WordsAt w7 gk roundK 95 := hK6.keeps K7 (fun ⟨ad, e, e'⟩ => o1 ad e e')
      have hH7 : WordsAt w7 gh first 97 := hH6.keeps K7 (fun ⟨ad, e, e'⟩ => o2 ad e e')
      have b67 := hB6.trans b7
      obtain ⟨q, hq⟩ : ∃ q, q = padded p := ⟨_, rfl⟩
      have eq7 : p ++ [128] ++ List.replicate k 0 ++ numBytes (8 * p.length) 8 = q := by rw [hq]; unfold padded; rw [← HNN.out]; rfl
      replace r7 : Row w7 B R7 c7 q := by rw [← eq7]; simpa using r7
      have ql : q.length = QL := by rw [← eq7, List.length_append, ll, l8]; exact hQL.out.symm
      have qw := padded_whole p
      rw [← hq, ql] at qw
      obtain ⟨N, hN⟩ : ∃ N, QL = 64 * N := ⟨QL / 64, by omega⟩
      have HQ := hid hq
      have HN := hid hN
      have QLb : QL ≤ 2000000000008 := by have := hQL.out; omega
      clear o1 o2 hR6 hK6 hH6 r6 b6 b7 K7 n7 hB6 eq7 hq hN qw l8 s6 hNsp hNmin hL ll hm' hQL hn64 HNN hLb
      have qpos : 0 < q.length := by rw [ql]; have := HN.out; rw [HQ.out] at ql; have := padded_length p; omega
      obtain ⟨gq, rfl⟩ := r7.place qpos
      have hcq : QL ≤ c7 := by rw [← ql]; exact r7.bsa.1
      have hcm : c7 ≤ 9223372036854775807 := by have := r7.bsa.2.1; unfold maxLen at this; omega
      have ql' := hid ql
      clear ql qpos
      go_wp2
      go_loopw [6] (fun i wr => ∃ (k av : Nat), k ≤ N ∧ Hid (av = 64 * k) ∧ i = .int .i64 av ∧ av ≤ QL ∧ Row wr B (some ⟨gq, 0, none⟩) c7 q ∧ WordsAt wr gk roundK 95 ∧ WordsAt wr gh (run first (q.take (64 * k))).1 97 ∧ Below B w wr) (fun i _ => QL - (intOf i).toNat)
      case atStart => exact ⟨0, 0, Nat.zero_le _, hid rfl, rfl, Nat.zero_le _, r7, hK7, by simpa [run_short] using hH7, b67⟩
      case round =>
        clear r7 hK7 hH7 b67
        obtain ⟨kb, av, hkb, hav, rfl, hle, hR, hK, hH, hBW⟩ := hrel
        have sB := Nat.le_trans hBw hBW.size
        by_cases hlt : av < QL
        · have tav : decide ((av : Int) < (QL : Int)) = true := by simp; omega
          have hkN : kb < N := by have := hav.out; have := HN.out; omega
          have hroom : av + 64 ≤ QL := by have := hav.out; have := HN.out; omega
          have hlen8 : (run first (q.take (64 * kb))).1.length = 8 := run_length rfl _
          have HNX := hid (run_next first q kb (by have := HN.out; rw [ql'.out]; omega))
          obtain ⟨hs, hhs⟩ : ∃ s, s = (run first (q.take (64 * kb))).1 := ⟨_, rfl⟩
          rw [← hhs] at hH hlen8 HNX
          obtain ⟨blk, hblk⟩ : ∃ b, b = (q.drop (64 * kb)).take 64 := ⟨_, rfl⟩
          rw [← hblk] at HNX
          obtain ⟨m16, hm16⟩ : ∃ m, m = wordsOf blk := ⟨_, rfl⟩
          rw [← hm16] at HNX
          have l16 : m16.length = 16 := by rw [hm16]; exact wordsOf_length _
          have HWF := hid (fun j (hj : j < 16) => show W m16 j = be ((q.drop (av + 4 * j)).take 4) by rw [hm16, W_first blk j hj, hblk, chunk_drop _ _ _ hj, ← hav.out])
          have HWN := hid (fun i h h' => W_next (m := m16) l16 (i := i) h h')
          obtain ⟨F, hF⟩ : ∃ F, F = W m16 := ⟨_, rfl⟩
          rw [← hF] at HWF HWN
          have HF := hid hF
          have al := below_alloc (Below.refl _ wr) (.cells (u32s zeros64) 95)
          have hR1 := hR.below al
          have hK1 := hK.below al
          have hH1 := hH.below al
          have hB1 := hBW.alloc sB (.cells (u32s zeros64) 95)
          have hW1 : WordsAt (wr.alloc (.cells (u32s zeros64) 95)) wr.heap.size (wrow F 0) 95 := by rw [← zeros64_row]; exact heap_alloc_new wr _
          have lk := lt_of_block hK
          have lh := lt_of_block hH
          obtain ⟨gw, hgw⟩ : ∃ g, g = wr.heap.size := ⟨_, rfl⟩
          rw [← hgw] at hW1
          have hwB : B ≤ gw := by omega
          have hwk : ¬ gw = gk := by omega
          have hwh : ¬ gw = gh := by omega
          clear hR hK hH hBW hhs hblk hm16 hF al lk lh
          go_wp2
          rw [← hgw]
          generalize wr.alloc (.cells (u32s zeros64) 95) = W1 at *
          clear hgw
          have oq := hid (hR1.other hW1 (by decide))
          have hKW : Keeps (fun j => j = gw) W1 W1 := Keeps.refl _ _
          go_loopw [8] (fun i wy => ∃ k : Nat, k ≤ 64 ∧ i = .int .i64 k ∧ WordsAt wy gw (wrow F k) 95 ∧ Keeps (fun j => j = gw) W1 wy) (fun i _ => 64 - (intOf i).toNat)
          case atStart => exact ⟨0, Nat.zero_le _, rfl, hW1, hKW⟩
          case round =>
            clear hW1 hKW
            obtain ⟨k, hk, rfl, hW, hKW⟩ := hrel
            by_cases hlt6 : k < 64
            · have t64 : decide ((k : Int) < 64) = true := by simp; omega
              have fk := hW.free k
              have HS := hid (hW.set k (F k))
              rw [wrow_next F k hlt6] at HS
              have HKS := hid (hKW.then (Keeps.set1 wr gw k (.int .u32 ((F k).toNat : Int))) (fun _ _ e => e))
              have ck := hW.cell k (by rw [wrow_length]; exact hlt6)
              rw [wrow_get F k k hlt6, if_neg (by omega)] at ck
              by_cases h16 : k < 16
              · have t16 : decide ((k : Int) < 16) = true := by simp; omega
                obtain ⟨lo, hlo⟩ : ∃ l, l = av + 4 * k := ⟨_, rfl⟩
                have lo4 : lo + 4 ≤ QL := by omega
                have e1 : (av : Int) + 4 * (k : Int) = (lo : Int) := by omega
                have hRk := hR1.keeps hKW (fun ad e e' => oq.out ad e e')
                have hlc : ¬ c7 = lo := by omega
                have hbs : BSA wr (some ⟨gq, lo, none⟩) (c7 - lo) ((q.drop lo).take 4) := by
                  have := ((WaitAt.of_own hRk).drop lo (by rw [ql'.out]; omega)).bsa.take 4
                  simpa using this
                have l4 : ((q.drop lo).take 4).length = 4 := by rw [List.length_take, List.length_drop, ql'.out]; omega
                have RD := readN_any hbs (by omega)
                rw [l4] at RD
                have hFk := HWF.out k h16
                rw [← hlo] at hFk
                have hbr := be_read _ l4
                rw [← hFk] at hbr
                obtain ⟨rn, hrn⟩ : ∃ r, r = readNat ((q.drop lo).take 4) := ⟨_, rfl⟩
                rw [← hrn] at RD hbr
                obtain ⟨x, hx⟩ : ∃ x, x = F k := ⟨_, rfl⟩
                rw [← hx] at hbr HS HKS
                have xl := word_lt x
                have c32 : (rn : Int) % 4294967296 = (x.toNat : Int) := by omega
                have HRD := hid RD
                clear hRk hbs l4 RD hFk hbr hrn hx hW hKW xl hlo
                go_wp2_with fail
                refine HRD.out.mono ?_
                rintro e w9 ⟨rfl, rfl⟩
                go_wp2
                go_roundw
                case rel => exact ⟨k + 1, by omega, by go_num, HS.out, HKS.out⟩
                case measure => simp [intOf]; omega
              · have t16 : decide ((k : Int) < 16) = false := by simp; omega
                obtain ⟨j2, j7, j15, j16, ⟨e2, v2, p2, l2⟩, ⟨e7, v7, p7, l7⟩, ⟨e15, v15, p15, l15⟩, ⟨e16, v16, p16, l16'⟩, hFk⟩ := W_split HWN.out k (Nat.le_of_not_lt h16) hlt6
                have pk : ((k : Int) < 64) = True := eq_true (Int.ofNat_lt.2 hlt6)
                have c2 := hW.cell j2 (by rw [wrow_length]; exact l2.1)
                have c7 := hW.cell j7 (by rw [wrow_length]; exact l7.1)
                have c15 := hW.cell j15 (by rw [wrow_length]; exact l15.1)
                have c16 := hW.cell j16 (by rw [wrow_length]; exact l16'.1)
                rw [wrow_get F k _ l2.1, if_pos l2.2] at c2
                rw [wrow_get F k _ l7.1, if_pos l7.2] at c7
                rw [wrow_get F k _ l15.1, if_pos l15.2] at c15
                rw [wrow_get F k _ l16'.1, if_pos l16'.2] at c16
                clear l2 l7 l15 l16'
                obtain ⟨x2, hx2⟩ : ∃ x, x = F j2 := ⟨_, rfl⟩
                obtain ⟨x7, hx7⟩ : ∃ x, x = F j7 := ⟨_, rfl⟩
                obtain ⟨x15, hx15⟩ : ∃ x, x = F j15 := ⟨_, rfl⟩
                obtain ⟨x16, hx16⟩ : ∃ x, x = F j16 := ⟨_, rfl⟩
                rw [← hx2] at c2 hFk
                rw [← hx7] at c7 hFk
                rw [← hx15] at c15 hFk
                rw [← hx16] at c16 hFk
                have S3 : (x15.toNat : Int) / 8 = ((wShr x15 3).toNat : Int) := word_shr x15 3 (by decide)
                have S10 : (x2.toNat : Int) / 1024 = ((wShr x2 10).toNat : Int) := word_shr x2 10 (by decide)
                have X1 := word_xor (rotr x15 7) (rotr x15 18)
                have X2 := word_xor (wXor (rotr x15 7) (rotr x15 18)) (wShr x15 3)
                have X3 := word_xor (rotr x2 17) (rotr x2 19)
                have X4 := word_xor (wXor (rotr x2 17) (rotr x2 19)) (wShr x2 10)
                rw [show wXor (wXor (rotr x15 7) (rotr x15 18)) (wShr x15 3) = sig0 x15 from rfl] at X2
                rw [show wXor (wXor (rotr x2 17) (rotr x2 19)) (wShr x2 10) = sig1 x2 from rfl] at X4
                have A1 := word_addW x16 x7
                have A2 := word_addW (wAdd x16 x7) (sig0 x15)
                have A3 := word_addW (wAdd (wAdd x16 x7) (sig0 x15)) (sig1 x2)
                rw [← hFk] at A3
                have T1 : ∀ w : World, Calls Tryd.prog 56 #[.int .u32 (x15.toNat : Int), .int .i64 7] w fun e w' => e = .returned (.int .u32 ((rotr x15 7).toNat : Int)) ∧ Below w.heap.size w w' := fun w => turn_any (n := 7) (by decide) (by decide)
                have T2 : ∀ w : World, Calls Tryd.prog 56 #[.int .u32 (x15.toNat : Int), .int .i64 18] w fun e w' => e = .returned (.int .u32 ((rotr x15 18).toNat : Int)) ∧ Below w.heap.size w w' := fun w => turn_any (n := 18) (by decide) (by decide)
                have T3 : ∀ w : World, Calls Tryd.prog 56 #[.int .u32 (x2.toNat : Int), .int .i64 17] w fun e w' => e = .returned (.int .u32 ((rotr x2 17).toNat : Int)) ∧ Below w.heap.size w w' := fun w => turn_any (n := 17) (by decide) (by decide)
                have T4 : ∀ w : World, Calls Tryd.prog 56 #[.int .u32 (x2.toNat : Int), .int .i64 19] w fun e w' => e = .returned (.int .u32 ((rotr x2 19).toNat : Int)) ∧ Below w.heap.size w w' := fun w => turn_any (n := 19) (by decide) (by decide)
                clear hx2 hx7 hx15 hx16 hFk HS HKS
                go_wp2
                refine start_ (n := 10) (S := fun w' => w'.cell? ⟨gw, j15, none⟩ = some (.int .u32 (x15.toNat : Int)) ∧ w'.cell? ⟨gw, j2, none⟩ = some (.int .u32 (x2.toNat : Int))) (ds := []) #[false, false, false, false, false, false, false, false, false, false] (by kernel_rfl) rfl rfl ⟨c15, c2⟩ (fun hHeld => ?_)
                refine pure_ (i := 0) (N := some 69) (v := ?_) (a' := ?_) #[true, false, false, false, false, false, false, false, false, false] rfl rfl (by kernel_rfl) (fun _ _ _ h => h) (Or.inl ⟨by rfl, ?_⟩) ?_ ?_
                rotate_left
                · intro w'
                  go_simp
                  with_reducible rfl
                rotate_left
                · simp only [Act.put, List.setIfInBounds_toArray, List.set_cons_zero, List.set_cons_succ, i64_w, i32_w]
                  rfl
                refine pure_ (i := 1) (N := some 70) (v := ?_) (a' := ?_) #[true, true, false, false, false, false, false, false, false, false] rfl rfl (by kernel_rfl) (fun _ _ _ h => h) (Or.inl ⟨by rfl, ?_⟩) ?_ ?_
                rotate_left
                · intro w'
                  go_simp
                  with_reducible rfl
                rotate_left
                · simp only [Act.put, List.setIfInBounds_toArray, List.set_cons_zero, List.set_cons_succ, i64_w, i32_w]
                  rfl
                refine pure_ (i := 2) (N := some 71) (v := ?_) (a' := ?_) #[true, true, true, false, false, false, false, false, false, false] rfl rfl (by kernel_rfl) (fun _ _ _ h => h) (Or.inl ⟨by rfl, ?_⟩) ?_ ?_
                rotate_left
                · intro w'
                  go_simp
                  with_reducible rfl
                rotate_left
                · simp only [Act.put, List.setIfInBounds_toArray, List.set_cons_zero, List.set_cons_succ, i64_w, i32_w]
                  rfl
                refine pure_ (i := 4) (N := some 73) (v := ?_) (a' := ?_) #[true, true, true, false, true, false, false, false, false, false] rfl rfl (by kernel_rfl) (fun _ _ _ h => h) (Or.inl ⟨by rfl, ?_⟩) ?_ ?_
                rotate_left
                · intro w'
                  go_simp
                  with_reducible rfl
                rotate_left
                · simp only [Act.put, List.setIfInBounds_toArray, List.set_cons_zero, List.set_cons_succ, i64_w, i32_w]
                  rfl
                refine pure_ (i := 5) (N := some 74) (v := ?_) (a' := ?_) #[true, true, true, false, true, true, false, false, false, false] rfl rfl (by kernel_rfl) (fun _ _ _ h => h) (Or.inl ⟨by rfl, ?_⟩) ?_ ?_
                rotate_left
                · intro w'
                  go_simp
                  with_reducible rfl
                rotate_left
                · simp only [Act.put, List.setIfInBounds_toArray, List.set_cons_zero, List.set_cons_succ, i64_w, i32_w]
                  rfl
                refine pure_ (i := 6) (N := some 75) (v := ?_) (a' := ?_) #[true, true, true, false, true, true, true, false, false, false] rfl rfl (by kernel_rfl) (fun _ _ _ h => h) (Or.inl ⟨by rfl, ?_⟩) ?_ ?_
                rotate_left
                · intro w'
                  go_simp
                  with_reducible rfl
                rotate_left
                · simp only [Act.put, List.setIfInBounds_toArray, List.set_cons_zero, List.set_cons_succ, i64_w, i32_w]
                  rfl
                refine take_ (i := 3) (N := some 72) (v := ?_) (a' := ?_) #[true, true, true, true, true, true, true, false, false, false] rfl rfl (by kernel_rfl) (fun _ _ _ h => h) (Or.inl ⟨by rfl, ?_⟩) hHeld ?_ ?_
                rotate_left
                · rintro w' ⟨s0, s1⟩
                  go_simp
                  with_reducible rfl
                rotate_left
                · simp only [Act.put, List.setIfInBounds_toArray, List.set_cons_zero, List.set_cons_succ, i64_w, i32_w]
                  rfl
                refine pure_ (i := 8) (N := some 9) (v := ?_) (a' := ?_) #[true, true, true, true, true, true, true, false, true, false] rfl rfl (by kernel_rfl) (fun _ _ _ h => h) (Or.inl ⟨by rfl, ?_⟩) ?_ ?_
                rotate_left
                · intro w'
                  go_simp
                  with_reducible rfl
                rotate_left
                · simp only [Act.put, List.setIfInBounds_toArray, List.set_cons_zero, List.set_cons_succ, i64_w, i32_w]
                  rfl
                refine take_ (i := 7) (N := some 76) (v := ?_) (a' := ?_) #[true, true, true, true, true, true, true, true, true, false] rfl rfl (by kernel_rfl) (fun _ _ _ h => h) (Or.inl ⟨by rfl, ?_⟩) hHeld ?_ ?_
                rotate_left
                · rintro w' ⟨s0, s1⟩
                  go_simp
                  with_reducible rfl
                rotate_left
                · simp only [Act.put, List.setIfInBounds_toArray, List.set_cons_zero, List.set_cons_succ, i64_w, i32_w]
                  rfl
                refine pure_ (i := 9) (N := some 10) (v := ?_) (a' := ?_) #[true, true, true, true, true, true, true, true, true, true] rfl rfl (by kernel_rfl) (fun _ _ _ h => h) (Or.inl ⟨by rfl, ?_⟩) ?_ ?_
                rotate_left
                · intro w'
                  go_simp
                  with_reducible rfl
                rotate_left
                · simp only [Act.put, List.setIfInBounds_toArray, List.set_cons_zero, List.set_cons_succ, i64_w, i32_w]
                  rfl
                refine done_ (by kernel_rfl) ?_
                clear p2 p15 v2 v15 c2 c15
                go_wp2
                refine start_ (n := 30) (S := fun w' => w'.cell? ⟨gw, j16, none⟩ = some (.int .u32 (x16.toNat : Int)) ∧ w'.cell? ⟨gw, j7, none⟩ = some (.int .u32 (x7.toNat : Int)) ∧ w'.cell? ⟨gw, k, none⟩ = some (.int .u32 ((0 : UInt32).toNat : Int)) ∧ w'.frozen? ⟨gw, k, none⟩ = false) (ds := [29]) #[false, false, false, false, false, false, false, false, false, false, false, false, false, false, false, false, false, false, false, false, false, false, false, false, false, false, false, false, false, false] (by kernel_rfl) rfl rfl ⟨c16, c7, ck, fk⟩ (fun hHeld => ?_)
                refine pure_ (i := 0) (N := some 77) (v := ?_) (a' := ?_) #[true, false, false, false, false, false, false, false, false, false, false, false, false, false, false, false, false, false, false, false, false, false, false, false, false, false, false, false, false, false] rfl rfl (by kernel_rfl) (fun _ _ _ h => h) (Or.inl ⟨by rfl, ?_⟩) ?_ ?_
                rotate_left
                · intro w'
                  go_simp
                  with_reducible rfl
                rotate_left
                · simp only [Act.put, List.setIfInBounds_toArray, List.set_cons_zero, List.set_cons_succ, i64_w, i32_w]
                  rfl
                refine pure_ (i := 1) (N := some 78) (v := ?_) (a' := ?_) #[true, true, false, false, false, false, false, false, false, false, false, false, false, false, false, false, false, false, false, false, false, false, false, false, false, false, false, false, false, false] rfl rfl (by kernel_rfl) (fun _ _ _ h => h) (Or.inl ⟨by rfl, ?_⟩) ?_ ?_
                rotate_left
                · intro w'
                  go_simp
                  with_reducible rfl
                rotate_left
                · simp only [Act.put, List.setIfInBounds_toArray, List.set_cons_zero, List.set_cons_succ, i64_w, i32_w]
                  rfl
                refine pure_ (i := 2) (N := some 79) (v := ?_) (a' := ?_) #[true, true, true, false, false, false, false, false, false, false, false, false, false, false, false, false, false, false, false, false, false, false, false, false, false, false, false, false, false, false] rfl rfl (by kernel_rfl) (fun _ _ _ h => h) (Or.inl ⟨by rfl, ?_⟩) ?_ ?_
                rotate_left
                · intro w'
                  go_simp
                  with_reducible rfl
                rotate_left
                · simp only [Act.put, List.setIfInBounds_toArray, List.set_cons_zero, List.set_cons_succ, i64_w, i32_w]
                  rfl
                refine pure_ (i := 3) (N := some 80) (v := ?_) (a' := ?_) #[true, true, true, true, false, false, false, false, false, false, false, false, false, false, false, false, false, false, false, false, false, false, false, false, false, false, false, false, false, false] rfl rfl (by kernel_rfl) (fun _ _ _ h => h) (Or.inl ⟨by rfl, ?_⟩) ?_ ?_
                rotate_left
                · intro w'
                  go_simp
                  with_reducible rfl
                rotate_left
                · simp only [Act.put, List.setIfInBounds_toArray, List.set_cons_zero, List.set_cons_succ, i64_w, i32_w]
                  rfl
                refine pure_ (i := 5) (N := some 82) (v := ?_) (a' := ?_) #[true, true, true, true, false, true, false, false, false, false, false, false, false, false, false, false, false, false, false, false, false, false, false, false, false, false, false, false, false, false] rfl rfl (by kernel_rfl) (fun _ _ _ h => h) (Or.inl ⟨by rfl, ?_⟩) ?_ ?_
                rotate_left
                · intro w'
                  go_simp
                  with_reducible rfl
                rotate_left
                · simp only [Act.put, List.setIfInBounds_toArray, List.set_cons_zero, List.set_cons_succ, i64_w, i32_w]
                  rfl
                refine pure_ (i := 6) (N := some 83) (v := ?_) (a' := ?_) #[true, true, true, true, false, true, true, false, false, false, false, false, false, false, false, false, false, false, false, false, false, false, false, false, false, false, false, false, false, false] rfl rfl (by kernel_rfl) (fun _ _ _ h => h) (Or.inl ⟨by rfl, ?_⟩) ?_ ?_
                rotate_left
                · intro w'
                  go_simp
                  with_reducible rfl
                rotate_left
                · simp only [Act.put, List.setIfInBounds_toArray, List.set_cons_zero, List.set_cons_succ, i64_w, i32_w]
                  rfl
                refine pure_ (i := 7) (N := some 84) (v := ?_) (a' := ?_) #[true, true, true, true, false, true, true, true, false, false, false, false, false, false, false, false, false, false, false, false, false, false, false, false, false, false, false, false, false, false] rfl rfl (by kernel_rfl) (fun _ _ _ h => h) (Or.inl ⟨by rfl, ?_⟩) ?_ ?_
                rotate_left
                · intro w'
                  go_simp
                  with_reducible rfl
                rotate_left
                · simp only [Act.put, List.setIfInBounds_toArray, List.set_cons_zero, List.set_cons_succ, i64_w, i32_w]
                  rfl
                refine pure_ (i := 10) (N := some 87) (v := ?_) (a' := ?_) #[true, true, true, true, false, true, true, true, false, false, true, false, false, false, false, false, false, false, false, false, false, false, false, false, false, false, false, false, false, false] rfl rfl (by kernel_rfl) (fun _ _ _ h => h) (Or.inl ⟨by rfl, ?_⟩) ?_ ?_
                rotate_left
                · intro w'
                  go_simp
                  with_reducible rfl
                rotate_left
                · simp only [Act.put, List.setIfInBounds_toArray, List.set_cons_zero, List.set_cons_succ, i64_w, i32_w]
                  rfl
                refine pure_ (i := 12) (N := some 89) (v := ?_) (a' := ?_) #[true, true, true, true, false, true, true, true, false, false, true, false, true, false, false, false, false, false, false, false, false, false, false, false, false, false, false, false, false, false] rfl rfl (by kernel_rfl) (fun _ _ _ h => h) (Or.inl ⟨by rfl, ?_⟩) ?_ ?_
                rotate_left
                · intro w'
                  go_simp
                  with_reducible rfl
                rotate_left
                · simp only [Act.put, List.setIfInBounds_toArray, List.set_cons_zero, List.set_cons_succ, i64_w, i32_w]
                  rfl
                refine pure_ (i := 15) (N := some 92) (v := ?_) (a' := ?_) #[true, true, true, true, false, true, true, true, false, false, true, false, true, false, false, true, false, false, false, false, false, false, false, false, false, false, false, false, false, false] rfl rfl (by kernel_rfl) (fun _ _ _ h => h) (Or.inl ⟨by rfl, ?_⟩) ?_ ?_
                rotate_left
                · intro w'
                  go_simp
                  with_reducible rfl
                rotate_left
                · simp only [Act.put, List.setIfInBounds_toArray, List.set_cons_zero, List.set_cons_succ, i64_w, i32_w]
                  rfl
                refine pure_ (i := 16) (N := some 93) (v := ?_) (a' := ?_) #[true, true, true, true, false, true, true, true, false, false, true, false, true, false, false, true, true, false, false, false, false, false, false, false, false, false, false, false, false, false] rfl rfl (by kernel_rfl) (fun _ _ _ h => h) (Or.inl ⟨by rfl, ?_⟩) ?_ ?_
                rotate_left
                · intro w'
                  go_simp
                  with_reducible rfl
                rotate_left
                · simp only [Act.put, List.setIfInBounds_toArray, List.set_cons_zero, List.set_cons_succ, i64_w, i32_w]
                  rfl
                refine pure_ (i := 19) (N := some 96) (v := ?_) (a' := ?_) #[true, true, true, true, false, true, true, true, false, false, true, false, true, false, false, true, true, false, false, true, false, false, false, false, false, false, false, false, false, false] rfl rfl (by kernel_rfl) (fun _ _ _ h => h) (Or.inl ⟨by rfl, ?_⟩) ?_ ?_
                rotate_left
                · intro w'
                  go_simp
                  with_reducible rfl
                rotate_left
                · simp only [Act.put, List.setIfInBounds_toArray, List.set_cons_zero, List.set_cons_succ, i64_w, i32_w]
                  rfl
                refine pure_ (i := 21) (N := some 98) (v := ?_) (a' := ?_) #[true, true, true, true, false, true, true, true, false, false, true, false, true, false, false, true, true, false, false, true, false, true, false, false, false, false, false, false, false, false] rfl rfl (by kernel_rfl) (fun _ _ _ h => h) (Or.inl ⟨by rfl, ?_⟩) ?_ ?_
                rotate_left
                · intro w'
                  go_simp
                  with_reducible rfl
                rotate_left
                · simp only [Act.put, List.setIfInBounds_toArray, List.set_cons_zero, List.set_cons_succ, i64_w, i32_w]
                  rfl
                refine pure_ (i := 24) (N := some 101) (v := ?_) (a' := ?_) #[true, true, true, true, false, true, true, true, false, false, true, false, true, false, false, true, true, false, false, true, false, true, false, false, true, false, false, false, false, false] rfl rfl (by kernel_rfl) (fun _ _ _ h => h) (Or.inl ⟨by rfl, ?_⟩) ?_ ?_
                rotate_left
                · intro w'
                  go_simp
                  with_reducible rfl
                rotate_left
                · simp only [Act.put, List.setIfInBounds_toArray, List.set_cons_zero, List.set_cons_succ, i64_w, i32_w]
                  rfl
                refine pure_ (i := 25) (N := some 102) (v := ?_) (a' := ?_) #[true, true, true, true, false, true, true, true, false, false, true, false, true, false, false, true, true, false, false, true, false, true, false, false, true, true, false, false, false, false] rfl rfl (by kernel_rfl) (fun _ _ _ h => h) (Or.inl ⟨by rfl, ?_⟩) ?_ ?_
                rotate_left
                · intro w'
                  go_simp
                  with_reducible rfl
                rotate_left
                · simp only [Act.put, List.setIfInBounds_toArray, List.set_cons_zero, List.set_cons_succ, i64_w, i32_w]
                  rfl
                refine take_ (i := 4) (N := some 81) (v := ?_) (a' := ?_) #[true, true, true, true, true, true, true, true, false, false, true, false, true, false, false, true, true, false, false, true, false, true, false, false, true, true, false, false, false, false] rfl rfl (by kernel_rfl) (fun _ _ _ h => h) (Or.inl ⟨by rfl, ?_⟩) hHeld ?_ ?_
                rotate_left
                · rintro w' ⟨s0, s1, s2, s3⟩
                  go_simp
                  with_reducible rfl
                rotate_left
                · simp only [Act.put, List.setIfInBounds_toArray, List.set_cons_zero, List.set_cons_succ, i64_w, i32_w]
                  rfl
                refine take_ (i := 8) (N := some 85) (v := ?_) (a' := ?_) #[true, true, true, true, true, true, true, true, true, false, true, false, true, false, false, true, true, false, false, true, false, true, false, false, true, true, false, false, false, false] rfl rfl (by kernel_rfl) (fun _ _ _ h => h) (Or.inl ⟨by rfl, ?_⟩) hHeld ?_ ?_
                rotate_left
                · rintro w' ⟨s0, s1, s2, s3⟩
                  go_simp
                  with_reducible rfl
                rotate_left
                · simp only [Act.put, List.setIfInBounds_toArray, List.set_cons_zero, List.set_cons_succ, i64_w, i32_w]
                  rfl
                refine pure_ (i := 9) (N := some 86) (v := ?_) (a' := ?_) #[true, true, true, true, true, true, true, true, true, true, true, false, true, false, false, true, true, false, false, true, false, true, false, false, true, true, false, false, false, false] rfl rfl (by kernel_rfl) (fun _ _ _ h => h) (Or.inl ⟨by rfl, ?_⟩) ?_ ?_
                rotate_left
                · intro w'
                  go_simp
                  with_reducible rfl
                rotate_left
                · simp only [Act.put, List.setIfInBounds_toArray, List.set_cons_zero, List.set_cons_succ, i64_w, i32_w]
                  rfl
                refine one_ (i := 11) (N := some 88) #[true, true, true, true, true, true, true, true, true, true, true, true, true, false, false, true, true, false, false, true, false, true, false, false, true, true, false, false, false, false] rfl rfl (by kernel_rfl) (by decide) (fun K hK => ?_)
                refine goes_ Tryd.func56 (by kernel_rfl) rfl #[.int .u32 (x15.toNat : Int), .int .i64 7] (by rfl) rfl rfl (by simp only [List.map_toArray, List.map_cons, List.map_nil]; rfl) ?_
                with_reducible refine ((T1 _)).mono ?_
                rintro e' wa ⟨rfl, qa⟩
                refine ⟨_, rfl, ?_⟩
                have a16 := below_cell qa c16
                have a7 := below_cell qa c7
                have ak := below_cell qa ck
                have Wa : WordsAt wa gw (wrow F k) 95 := WordsAt.below (show WordsAt wr.drew.drew gw (wrow F k) 95 from hW) qa
                have af := Wa.free k
                refine hK.out _ _ ⟨a16, a7, ak, af⟩ (fun hHeld => ?_)
                clear hK K
                refine norm_ (a' := ?_) ?_ ?_
                rotate_left
                · show Act.put _ (some 88) _ = _
                  simp only [Act.put, List.setIfInBounds_toArray, List.set_cons_zero, List.set_cons_succ, i64_w, i32_w]
                  rfl
                refine one_ (i := 13) (N := some 90) #[true, true, true, true, true, true, true, true, true, true, true, true, true, true, false, true, true, false, false, true, false, true, false, false, true, true, false, false, false, false] rfl rfl (by kernel_rfl) (by decide) (fun K hK => ?_)
                refine goes_ Tryd.func56 (by kernel_rfl) rfl #[.int .u32 (x15.toNat : Int), .int .i64 18] (by rfl) rfl rfl (by simp only [List.map_toArray, List.map_cons, List.map_nil]; rfl) ?_
                with_reducible refine ((T2 _)).mono ?_
                rintro e' wb ⟨rfl, qb⟩
                refine ⟨_, rfl, ?_⟩
                have b16 := below_cell qb a16
                have b7 := below_cell qb a7
                have bk := below_cell qb ak
                have Wb : WordsAt wb gw (wrow F k) 95 := WordsAt.below Wa qb
                have bf := Wb.free k
                refine hK.out _ _ ⟨b16, b7, bk, bf⟩ (fun hHeld => ?_)
                clear hK K
                refine norm_ (a' := ?_) ?_ ?_
                rotate_left
                · show Act.put _ (some 90) _ = _
                  simp only [Act.put, List.setIfInBounds_toArray, List.set_cons_zero, List.set_cons_succ, i64_w, i32_w]
                  rfl
                refine pure_ (i := 14) (N := some 91) (v := ?_) (a' := ?_) #[true, true, true, true, true, true, true, true, true, true, true, true, true, true, true, true, true, false, false, true, false, true, false, false, true, true, false, false, false, false] rfl rfl (by kernel_rfl) (fun _ _ _ h => h) (Or.inl ⟨by rfl, ?_⟩) ?_ ?_
                rotate_left
                · intro w'
                  go_simp
                  with_reducible rfl
                rotate_left
                · simp only [Act.put, List.setIfInBounds_toArray, List.set_cons_zero, List.set_cons_succ, i64_w, i32_w]
                  rfl
                refine pure_ (i := 17) (N := some 94) (v := ?_) (a' := ?_) #[true, true, true, true, true, true, true, true, true, true, true, true, true, true, true, true, true, true, false, true, false, true, false, false, true, true, false, false, false, false] rfl rfl (by kernel_rfl) (fun _ _ _ h => h) (Or.inl ⟨by rfl, ?_⟩) ?_ ?_
                rotate_left
                · intro w'
                  go_simp
                  with_reducible rfl
                rotate_left
                · simp only [Act.put, List.setIfInBounds_toArray, List.set_cons_zero, List.set_cons_succ, i64_w, i32_w]
                  rfl
                refine pure_ (i := 18) (N := some 95) (v := ?_) (a' := ?_) #[true, true, true, true, true, true, true, true, true, true, true, true, true, true, true, true, true, true, true, true, false, true, false, false, true, true, false, false, false, false] rfl rfl (by kernel_rfl) (fun _ _ _ h => h) (Or.inl ⟨by rfl, ?_⟩) ?_ ?_
                rotate_left
                · intro w'
                  go_simp
                  with_reducible rfl
                rotate_left
                · simp only [Act.put, List.setIfInBounds_toArray, List.set_cons_zero, List.set_cons_succ, i64_w, i32_w]
                  rfl
                refine one_ (i := 20) (N := some 97) #[true, true, true, true, true, true, true, true, true, true, true, true, true, true, true, true, true, true, true, true, true, true, false, false, true, true, false, false, false, false] rfl rfl (by kernel_rfl) (by decide) (fun K hK => ?_)
                refine goes_ Tryd.func56 (by kernel_rfl) rfl #[.int .u32 (x2.toNat : Int), .int .i64 17] (by rfl) rfl rfl (by simp only [List.map_toArray, List.map_cons, List.map_nil]; rfl) ?_
                with_reducible refine ((T3 _)).mono ?_
                rintro e' wc ⟨rfl, qc⟩
                refine ⟨_, rfl, ?_⟩
                have d16 := below_cell qc b16
                have d7 := below_cell qc b7
                have dk := below_cell qc bk
                have Wc : WordsAt wc gw (wrow F k) 95 := WordsAt.below Wb qc
                have df := Wc.free k
                refine hK.out _ _ ⟨d16, d7, dk, df⟩ (fun hHeld => ?_)
                clear hK K
                refine norm_ (a' := ?_) ?_ ?_
                rotate_left
                · show Act.put _ (some 97) _ = _
                  simp only [Act.put, List.setIfInBounds_toArray, List.set_cons_zero, List.set_cons_succ, i64_w, i32_w]
                  rfl
                refine one_ (i := 22) (N := some 99) #[true, true, true, true, true, true, true, true, true, true, true, true, true, true, true, true, true, true, true, true, true, true, true, false, true, true, false, false, false, false] rfl rfl (by kernel_rfl) (by decide) (fun K hK => ?_)
                refine goes_ Tryd.func56 (by kernel_rfl) rfl #[.int .u32 (x2.toNat : Int), .int .i64 19] (by rfl) rfl rfl (by simp only [List.map_toArray, List.map_cons, List.map_nil]; rfl) ?_
                with_reducible refine ((T4 _)).mono ?_
                rintro e' wd ⟨rfl, qd⟩
                refine ⟨_, rfl, ?_⟩
                have g16 := below_cell qd d16
                have g7 := below_cell qd d7
                have gk' := below_cell qd dk
                have Wd : WordsAt wd gw (wrow F k) 95 := WordsAt.below Wc qd
                have gf := Wd.free k
                refine hK.out _ _ ⟨g16, g7, gk', gf⟩ (fun hHeld => ?_)
                clear hK K
                refine norm_ (a' := ?_) ?_ ?_
                rotate_left
                · show Act.put _ (some 99) _ = _
                  simp only [Act.put, List.setIfInBounds_toArray, List.set_cons_zero, List.set_cons_succ, i64_w, i32_w]
                  rfl
                refine pure_ (i := 23) (N := some 100) (v := ?_) (a' := ?_) #[true, true, true, true, true, true, true, true, true, true, true, true, true, true, true, true, true, true, true, true, true, true, true, true, true, true, false, false, false, false] rfl rfl (by kernel_rfl) (fun _ _ _ h => h) (Or.inl ⟨by rfl, ?_⟩) ?_ ?_
                rotate_left
                · intro w'
                  go_simp
                  with_reducible rfl
                rotate_left
                · simp only [Act.put, List.setIfInBounds_toArray, List.set_cons_zero, List.set_cons_succ, i64_w, i32_w]
                  rfl
                refine pure_ (i := 26) (N := some 103) (v := ?_) (a' := ?_) #[true, true, true, true, true, true, true, true, true, true, true, true, true, true, true, true, true, true, true, true, true, true, true, true, true, true, true, false, false, false] rfl rfl (by kernel_rfl) (fun _ _ _ h => h) (Or.inl ⟨by rfl, ?_⟩) ?_ ?_
                rotate_left
                · intro w'
                  go_simp
                  with_reducible rfl
                rotate_left
                · simp only [Act.put, List.setIfInBounds_toArray, List.set_cons_zero, List.set_cons_succ, i64_w, i32_w]
                  rfl
                refine pure_ (i := 27) (N := some 104) (v := ?_) (a' := ?_) #[true, true, true, true, true, true, true, true, true, true, true, true, true, true, true, true, true, true, true, true, true, true, true, true, true, true, true, true, false, false] rfl rfl (by kernel_rfl) (fun _ _ _ h => h) (Or.inl ⟨by rfl, ?_⟩) ?_ ?_
                rotate_left
                · intro w'
                  go_simp
                  with_reducible rfl
                rotate_left
                · simp only [Act.put, List.setIfInBounds_toArray, List.set_cons_zero, List.set_cons_succ, i64_w, i32_w]
                  rfl
                refine pure_ (i := 28) (N := some 105) (v := ?_) (a' := ?_) #[true, true, true, true, true, true, true, true, true, true, true, true, true, true, true, true, true, true, true, true, true, true, true, true, true, true, true, true, true, false] rfl rfl (by kernel_rfl) (fun _ _ _ h => h) (Or.inl ⟨by rfl, ?_⟩) ?_ ?_
                rotate_left
                · intro w'
                  go_simp
                  with_reducible rfl
                rotate_left
                · simp only [Act.put, List.setIfInBounds_toArray, List.set_cons_zero, List.set_cons_succ, i64_w, i32_w]
                  rfl
                refine last_ (i := 29) (N := none) #[true, true, true, true, true, true, true, true, true, true, true, true, true, true, true, true, true, true, true, true, true, true, true, true, true, true, true, true, true, true] rfl rfl (by kernel_rfl) (by decide) (fun K hK => ?_)
                refine skip_ (w1 := ?_) (by rfl) rfl ?_ ?_
                rotate_left
                · go_simp
                  rfl
                refine hK.out _ _ ?_
                clear hK K
                refine done_ (by kernel_rfl) ?_
                have HS := hid (Wd.set k (F k))
                rw [wrow_next F k hlt6] at HS
                have HKd : Keeps (fun j => j = gw) W1 wd := Keeps.below (Keeps.below (Keeps.below (Keeps.below hKW.drew.drew qa) qb) qc) qd
                have HKS := hid (HKd.then (Keeps.set1 wd gw k (.int .u32 ((F k).toNat : Int))) (fun _ _ e => e))
                clear HKd Wa Wb Wc Wd qa qb qc qd a16 a7 ak af b16 b7 bk bf d16 d7 dk df g16 g7 gk' gf c7 c16 ck fk hW hKW S3 S10 X1 X2 X3 X4 A1 A2 A3 T1 T2 T3 T4 p7 p16 pk v7 v16 e2 e7 e15 e16
                go_wp2
                go_roundw
                case rel => exact ⟨k + 1, by omega, by go_num, HS.out, HKS.out⟩
                case measure => simp [intOf]; omega
            · obtain rfl : k = 64 := by omega
              rw [show ((64 : Nat) : Int) = 64 from rfl]
              have sW1 := Nat.le_trans hBw hB1.size
              have hKr := hK1.keeps hKW (fun e => hwk e.symm)
              have hHr := hH1.keeps hKW (fun e => hwh e.symm)
              have hRr := hR1.keeps hKW (fun ad e e' => oq.out ad e e')
              have hBr := hB1.trans (below_of_keeps hKW sW1 (fun k hk => by omega))
              have sBr := Nat.le_trans hBw hBr.size
              obtain ⟨s0, s1, s2, s3, s4, s5, s6, s7, rfl⟩ := eight hlen8
              have x0 := hHr.cell 0 (by simp)
              have x1 := hHr.cell 1 (by simp)
              have x2 := hHr.cell 2 (by simp)
              have x3 := hHr.cell 3 (by simp)
              have x4 := hHr.cell 4 (by simp)
              have x5 := hHr.cell 5 (by simp)
              have x6 := hHr.cell 6 (by simp)
              have x7 := hHr.cell 7 (by simp)
              simp only [List.getD_cons_zero, List.getD_cons_succ] at x0 x1 x2 x3 x4 x5 x6 x7
              have al := below_alloc (Below.refl _ wr) (.cells #[.int .u32 (s0.toNat : Int), .int .u32 (s1.toNat : Int), .int .u32 (s2.toNat : Int), .int .u32 (s3.toNat : Int), .int .u32 (s4.toNat : Int), .int .u32 (s5.toNat : Int), .int .u32 (s6.toNat : Int), .int .u32 (s7.toNat : Int)] 97)
              have hK4 := hKr.below al
              have hW4 := hW.below al
              have hH4 := hHr.below al
              have hR4 := hRr.below al
              have hB4 := hBr.alloc sBr (.cells #[.int .u32 (s0.toNat : Int), .int .u32 (s1.toNat : Int), .int .u32 (s2.toNat : Int), .int .u32 (s3.toNat : Int), .int .u32 (s4.toNat : Int), .int .u32 (s5.toNat : Int), .int .u32 (s6.toNat : Int), .int .u32 (s7.toNat : Int)] 97)
              have hS4 : WordsAt (wr.alloc (.cells #[.int .u32 (s0.toNat : Int), .int .u32 (s1.toNat : Int), .int .u32 (s2.toNat : Int), .int .u32 (s3.toNat : Int), .int .u32 (s4.toNat : Int), .int .u32 (s5.toNat : Int), .int .u32 (s6.toNat : Int), .int .u32 (s7.toNat : Int)] 97)) wr.heap.size (rounds m16 0 [s0, s1, s2, s3, s4, s5, s6, s7]) 97 := heap_alloc_new wr _
              have lk := lt_of_block hKr
              have lh := lt_of_block hHr
              have lw := lt_of_block hW
              obtain ⟨gs, hgs⟩ : ∃ g, g = wr.heap.size := ⟨_, rfl⟩
              rw [← hgs] at hS4
              have hsB : B ≤ gs := by omega
              have hsk : ¬ gs = gk := by omega
              have hsh : ¬ gs = gh := by omega
              have hsw : ¬ gs = gw := by omega
              have L8 : ([s0, s1, s2, s3, s4, s5, s6, s7] : List UInt32).length = 8 := rfl
              clear hKr hHr hRr hBr hW hKW al lk lh lw hK1 hH1 hR1 hB1 oq sW1
              go_wp2
              rw [← hgs]
              generalize wr.alloc (.cells #[.int .u32 (s0.toNat : Int), .int .u32 (s1.toNat : Int), .int .u32 (s2.toNat : Int), .int .u32 (s3.toNat : Int), .int .u32 (s4.toNat : Int), .int .u32 (s5.toNat : Int), .int .u32 (s6.toNat : Int), .int .u32 (s7.toNat : Int)] 97) = W4 at *
              clear x0 x1 x2 x3 x4 x5 x6 x7 hgs sBr
              have oq4 := hid (hR4.other hS4 (by decide))
              have hKS : Keeps (fun j => j = gs) W4 W4 := Keeps.refl _ _
              go_loopw [12] (fun i wy => ∃ k : Nat, k ≤ 64 ∧ i = .int .i64 k ∧ WordsAt wy gs (rounds m16 k [s0, s1, s2, s3, s4, s5, s6, s7]) 97 ∧ Keeps (fun j => j = gs) W4 wy) (fun i _ => 64 - (intOf i).toNat)
              case atStart => exact ⟨0, Nat.zero_le _, rfl, hS4, hKS⟩
              case round =>
                clear hS4 hKS
                obtain ⟨k, hk, rfl, hS, hKS⟩ := hrel
                by_cases hlt7 : k < 64
                · have t64 : decide ((k : Int) < 64) = true := by simp; omega
                  obtain ⟨a, b, c₂, d, e, f, g, h, hst⟩ := eight (rounds_length m16 L8 k)
                  have hnx := hid (show rounds m16 (k + 1) [s0, s1, s2, s3, s4, s5, s6, s7] = step (roundK.getD k 0) (W m16 k) [a, b, c₂, d, e, f, g, h] by rw [← hst]; rfl)
                  rw [hst] at hS
                  have hKr := hK4.keeps hKS (fun e => hsk e.symm)
                  have hWr := hW4.keeps hKS (fun e => hsw e.symm)
                  have yk := hKr.cell k hlt7
                  have yw := hWr.cell k (by rw [wrow_length]; exact hlt7)
                  rw [wrow_get F 64 k hlt7, if_pos hlt7] at yw
                  obtain ⟨kk, hkk⟩ : ∃ x, x = roundK.getD k 0 := ⟨_, rfl⟩
                  obtain ⟨wk, hwk'⟩ : ∃ x, x = F k := ⟨_, rfl⟩
                  rw [← hkk] at yk hnx
                  rw [← HF.out, ← hwk'] at hnx
                  rw [← hwk'] at yw
                  have y0 := hS.cell 0 (by simp)
                  have y1 := hS.cell 1 (by simp)
                  have y2 := hS.cell 2 (by simp)
                  have y4 := hS.cell 4 (by simp)
                  have y5 := hS.cell 5 (by simp)
                  have y6 := hS.cell 6 (by simp)
                  have y7 := hS.cell 7 (by simp)
                  simp only [List.getD_cons_zero, List.getD_cons_succ] at y0 y1 y2 y4 y5 y6 y7
                  have N1 := word_not e
                  have N2 := word_not' e
                  have P1 := word_and e f
                  have P2 := word_and (wNot e) g
                  have P3 := word_or (wAnd e f) (wAnd (wNot e) g)
                  rw [show wOr (wAnd e f) (wAnd (wNot e) g) = choice e f g from rfl] at P3
                  have P4 := word_and a b
                  have P5 := word_and a c₂
                  have P6 := word_xor (wAnd a b) (wAnd a c₂)
                  have P7 := word_and b c₂
                  have P8 := word_xor (wXor (wAnd a b) (wAnd a c₂)) (wAnd b c₂)
                  rw [show wXor (wXor (wAnd a b) (wAnd a c₂)) (wAnd b c₂) = most a b c₂ from rfl] at P8
                  have X1 := word_xor (rotr e 6) (rotr e 11)
                  have X2 := word_xor (wXor (rotr e 6) (rotr e 11)) (rotr e 25)
                  obtain ⟨SS, hSS⟩ : ∃ x, x = wXor (wXor (rotr e 6) (rotr e 11)) (rotr e 25) := ⟨_, rfl⟩
                  obtain ⟨CC, hCC⟩ : ∃ x, x = choice e f g := ⟨_, rfl⟩
                  have hT : roundT kk wk e f g h = wAdd (wAdd (wAdd (wAdd h SS) CC) kk) wk := by rw [hSS, hCC]; rfl
                  rw [← hSS] at X2
                  rw [← hCC] at P3
                  have A1 := word_addW h SS
                  have A2 := word_addW (wAdd h SS) CC
                  have A3 := word_addW (wAdd (wAdd h SS) CC) kk
                  have A4 := word_addW (wAdd (wAdd (wAdd h SS) CC) kk) wk
                  rw [← hT] at A4
                  have T1 : ∀ w : World, Calls Tryd.prog 56 #[.int .u32 (e.toNat : Int), .int .i64 6] w fun r w' => r = .returned (.int .u32 ((rotr e 6).toNat : Int)) ∧ Below w.heap.size w w' := fun w => turn_any (n := 6) (by decide) (by decide)
                  have T2 : ∀ w : World, Calls Tryd.prog 56 #[.int .u32 (e.toNat : Int), .int .i64 11] w fun r w' => r = .returned (.int .u32 ((rotr e 11).toNat : Int)) ∧ Below w.heap.size w w' := fun w => turn_any (n := 11) (by decide) (by decide)
                  have T3 : ∀ w : World, Calls Tryd.prog 56 #[.int .u32 (e.toNat : Int), .int .i64 25] w fun r w' => r = .returned (.int .u32 ((rotr e 25).toNat : Int)) ∧ Below w.heap.size w w' := fun w => turn_any (n := 25) (by decide) (by decide)
                  have U1 : ∀ w : World, Calls Tryd.prog 56 #[.int .u32 (a.toNat : Int), .int .i64 2] w fun r w' => r = .returned (.int .u32 ((rotr a 2).toNat : Int)) ∧ Below w.heap.size w w' := fun w => turn_any (n := 2) (by decide) (by decide)
                  have U2 : ∀ w : World, Calls Tryd.prog 56 #[.int .u32 (a.toNat : Int), .int .i64 13] w fun r w' => r = .returned (.int .u32 ((rotr a 13).toNat : Int)) ∧ Below w.heap.size w w' := fun w => turn_any (n := 13) (by decide) (by decide)
                  have U3 : ∀ w : World, Calls Tryd.prog 56 #[.int .u32 (a.toNat : Int), .int .i64 22] w fun r w' => r = .returned (.int .u32 ((rotr a 22).toNat : Int)) ∧ Below w.heap.size w w' := fun w => turn_any (n := 22) (by decide) (by decide)
                  have Y1 := word_xor (rotr a 2) (rotr a 13)
                  have Y2 := word_xor (wXor (rotr a 2) (rotr a 13)) (rotr a 22)
                  have Y3 := word_add (wXor (wXor (rotr a 2) (rotr a 13)) (rotr a 22)) (most a b c₂)
                  rw [show wAdd (wXor (wXor (rotr a 2) (rotr a 13)) (rotr a 22)) (most a b c₂) = roundU a b c₂ from rfl] at Y3
                  have Y4 := word_add d (roundT kk wk e f g h)
                  have Y5 := word_add (roundT kk wk e f g h) (roundU a b c₂)
                  have pk : ((k : Int) < 64) = True := eq_true (Int.ofNat_lt.2 hlt7)
                  clear hst hkk hwk' hSS hCC hT hKr hWr
                  go_wp2
                  refine start_ (n := 6) (S := fun w' => w'.cell? ⟨gs, 0, none⟩ = some (.int .u32 (a.toNat : Int)) ∧ w'.cell? ⟨gs, 4, none⟩ = some (.int .u32 (e.toNat : Int))) (ds := []) #[false, false, false, false, false, false] (by kernel_rfl) rfl rfl ⟨y0, y4⟩ (fun hHeld => ?_)
                  refine pure_ (i := 0) (N := some 111) (v := ?_) (a' := ?_) #[true, false, false, false, false, false] rfl rfl (by kernel_rfl) (fun _ _ _ h => h) (Or.inl ⟨by rfl, ?_⟩) ?_ ?_
                  rotate_left
                  · intro w'
                    go_simp
                    with_reducible rfl
                  rotate_left
                  · simp only [Act.put, List.setIfInBounds_toArray, List.set_cons_zero, List.set_cons_succ, i64_w, i32_w]
                    rfl
                  refine pure_ (i := 2) (N := some 113) (v := ?_) (a' := ?_) #[true, false, true, false, false, false] rfl rfl (by kernel_rfl) (fun _ _ _ h => h) (Or.inl ⟨by rfl, ?_⟩) ?_ ?_
                  rotate_left
                  · intro w'
                    go_simp
                    with_reducible rfl
                  rotate_left
                  · simp only [Act.put, List.setIfInBounds_toArray, List.set_cons_zero, List.set_cons_succ, i64_w, i32_w]
                    rfl
                  refine take_ (i := 1) (N := some 112) (v := ?_) (a' := ?_) #[true, true, true, false, false, false] rfl rfl (by kernel_rfl) (fun _ _ _ h => h) (Or.inl ⟨by rfl, ?_⟩) hHeld ?_ ?_
                  rotate_left
                  · rintro w' ⟨s0, s1⟩
                    go_simp
                    with_reducible rfl
                  rotate_left
                  · simp only [Act.put, List.setIfInBounds_toArray, List.set_cons_zero, List.set_cons_succ, i64_w, i32_w]
                    rfl
                  refine pure_ (i := 4) (N := some 13) (v := ?_) (a' := ?_) #[true, true, true, false, true, false] rfl rfl (by kernel_rfl) (fun _ _ _ h => h) (Or.inl ⟨by rfl, ?_⟩) ?_ ?_
                  rotate_left
                  · intro w'
                    go_simp
                    with_reducible rfl
                  rotate_left
                  · simp only [Act.put, List.setIfInBounds_toArray, List.set_cons_zero, List.set_cons_succ, i64_w, i32_w]
                    rfl
                  refine take_ (i := 3) (N := some 114) (v := ?_) (a' := ?_) #[true, true, true, true, true, false] rfl rfl (by kernel_rfl) (fun _ _ _ h => h) (Or.inl ⟨by rfl, ?_⟩) hHeld ?_ ?_
                  rotate_left
                  · rintro w' ⟨s0, s1⟩
                    go_simp
                    with_reducible rfl
                  rotate_left
                  · simp only [Act.put, List.setIfInBounds_toArray, List.set_cons_zero, List.set_cons_succ, i64_w, i32_w]
                    rfl
                  refine pure_ (i := 5) (N := some 14) (v := ?_) (a' := ?_) #[true, true, true, true, true, true] rfl rfl (by kernel_rfl) (fun _ _ _ h => h) (Or.inl ⟨by rfl, ?_⟩) ?_ ?_
                  rotate_left
                  · intro w'
                    go_simp
                    with_reducible rfl
                  rotate_left
                  · simp only [Act.put, List.setIfInBounds_toArray, List.set_cons_zero, List.set_cons_succ, i64_w, i32_w]
                    rfl
                  refine done_ (by kernel_rfl) ?_
                  go_wp2
                  refine start_ (n := 22) (S := fun w' => w'.cell? ⟨gs, 7, none⟩ = some (.int .u32 (h.toNat : Int)) ∧ w'.cell? ⟨gk, k, none⟩ = some (.int .u32 (kk.toNat : Int)) ∧ w'.cell? ⟨gw, k, none⟩ = some (.int .u32 (wk.toNat : Int))) (ds := []) #[false, false, false, false, false, false, false, false, false, false, false, false, false, false, false, false, false, false, false, false, false, false] (by kernel_rfl) rfl rfl ⟨y7, yk, yw⟩ (fun hHeld => ?_)
                  refine pure_ (i := 0) (N := some 140) (v := ?_) (a' := ?_) #[true, false, false, false, false, false, false, false, false, false, false, false, false, false, false, false, false, false, false, false, false, false] rfl rfl (by kernel_rfl) (fun _ _ _ h => h) (Or.inl ⟨by rfl, ?_⟩) ?_ ?_
                  rotate_left
                  · intro w'
                    go_simp
                    with_reducible rfl
                  rotate_left
                  · simp only [Act.put, List.setIfInBounds_toArray, List.set_cons_zero, List.set_cons_succ, i64_w, i32_w]
                    rfl
                  refine pure_ (i := 2) (N := some 142) (v := ?_) (a' := ?_) #[true, false, true, false, false, false, false, false, false, false, false, false, false, false, false, false, false, false, false, false, false, false] rfl rfl (by kernel_rfl) (fun _ _ _ h => h) (Or.inl ⟨by rfl, ?_⟩) ?_ ?_
                  rotate_left
                  · intro w'
                    go_simp
                    with_reducible rfl
                  rotate_left
                  · simp only [Act.put, List.setIfInBounds_toArray, List.set_cons_zero, List.set_cons_succ, i64_w, i32_w]
                    rfl
                  refine pure_ (i := 4) (N := some 144) (v := ?_) (a' := ?_) #[true, false, true, false, true, false, false, false, false, false, false, false, false, false, false, false, false, false, false, false, false, false] rfl rfl (by kernel_rfl) (fun _ _ _ h => h) (Or.inl ⟨by rfl, ?_⟩) ?_ ?_
                  rotate_left
                  · intro w'
                    go_simp
                    with_reducible rfl
                  rotate_left
                  · simp only [Act.put, List.setIfInBounds_toArray, List.set_cons_zero, List.set_cons_succ, i64_w, i32_w]
                    rfl
                  refine pure_ (i := 7) (N := some 147) (v := ?_) (a' := ?_) #[true, false, true, false, true, false, false, true, false, false, false, false, false, false, false, false, false, false, false, false, false, false] rfl rfl (by kernel_rfl) (fun _ _ _ h => h) (Or.inl ⟨by rfl, ?_⟩) ?_ ?_
                  rotate_left
                  · intro w'
                    go_simp
                    with_reducible rfl
                  rotate_left
                  · simp only [Act.put, List.setIfInBounds_toArray, List.set_cons_zero, List.set_cons_succ, i64_w, i32_w]
                    rfl
                  refine pure_ (i := 11) (N := some 151) (v := ?_) (a' := ?_) #[true, false, true, false, true, false, false, true, false, false, false, true, false, false, false, false, false, false, false, false, false, false] rfl rfl (by kernel_rfl) (fun _ _ _ h => h) (Or.inl ⟨by rfl, ?_⟩) ?_ ?_
                  rotate_left
                  · intro w'
                    go_simp
                    with_reducible rfl
                  rotate_left
                  · simp only [Act.put, List.setIfInBounds_toArray, List.set_cons_zero, List.set_cons_succ, i64_w, i32_w]
                    rfl
                  refine pure_ (i := 13) (N := some 153) (v := ?_) (a' := ?_) #[true, false, true, false, true, false, false, true, false, false, false, true, false, true, false, false, false, false, false, false, false, false] rfl rfl (by kernel_rfl) (fun _ _ _ h => h) (Or.inl ⟨by rfl, ?_⟩) ?_ ?_
                  rotate_left
                  · intro w'
                    go_simp
                    with_reducible rfl
                  rotate_left
                  · simp only [Act.put, List.setIfInBounds_toArray, List.set_cons_zero, List.set_cons_succ, i64_w, i32_w]
                    rfl
                  refine pure_ (i := 14) (N := some 154) (v := ?_) (a' := ?_) #[true, false, true, false, true, false, false, true, false, false, false, true, false, true, true, false, false, false, false, false, false, false] rfl rfl (by kernel_rfl) (fun _ _ _ h => h) (Or.inl ⟨by rfl, ?_⟩) ?_ ?_
                  rotate_left
                  · intro w'
                    go_simp
                    with_reducible rfl
                  rotate_left
                  · simp only [Act.put, List.setIfInBounds_toArray, List.set_cons_zero, List.set_cons_succ, i64_w, i32_w]
                    rfl
                  refine pure_ (i := 17) (N := some 157) (v := ?_) (a' := ?_) #[true, false, true, false, true, false, false, true, false, false, false, true, false, true, true, false, false, true, false, false, false, false] rfl rfl (by kernel_rfl) (fun _ _ _ h => h) (Or.inl ⟨by rfl, ?_⟩) ?_ ?_
                  rotate_left
                  · intro w'
                    go_simp
                    with_reducible rfl
                  rotate_left
                  · simp only [Act.put, List.setIfInBounds_toArray, List.set_cons_zero, List.set_cons_succ, i64_w, i32_w]
                    rfl
                  refine pure_ (i := 18) (N := some 158) (v := ?_) (a' := ?_) #[true, false, true, false, true, false, false, true, false, false, false, true, false, true, true, false, false, true, true, false, false, false] rfl rfl (by kernel_rfl) (fun _ _ _ h => h) (Or.inl ⟨by rfl, ?_⟩) ?_ ?_
                  rotate_left
                  · intro w'
                    go_simp
                    with_reducible rfl
                  rotate_left
                  · simp only [Act.put, List.setIfInBounds_toArray, List.set_cons_zero, List.set_cons_succ, i64_w, i32_w]
                    rfl
                  refine take_ (i := 1) (N := some 141) (v := ?_) (a' := ?_) #[true, true, true, false, true, false, false, true, false, false, false, true, false, true, true, false, false, true, true, false, false, false] rfl rfl (by kernel_rfl) (fun _ _ _ h => h) (Or.inl ⟨by rfl, ?_⟩) hHeld ?_ ?_
                  rotate_left
                  · rintro w' ⟨s0, s1, s2⟩
                    go_simp
                    with_reducible rfl
                  rotate_left
                  · simp only [Act.put, List.setIfInBounds_toArray, List.set_cons_zero, List.set_cons_succ, i64_w, i32_w]
                    rfl
                  refine take_ (i := 15) (N := some 155) (v := ?_) (a' := ?_) #[true, true, true, false, true, false, false, true, false, false, false, true, false, true, true, true, false, true, true, false, false, false] rfl rfl (by kernel_rfl) (fun _ _ _ h => h) (Or.inl ⟨by rfl, ?_⟩) hHeld ?_ ?_
                  rotate_left
                  · rintro w' ⟨s0, s1, s2⟩
                    go_simp
                    with_reducible rfl
                  rotate_left
                  · simp only [Act.put, List.setIfInBounds_toArray, List.set_cons_zero, List.set_cons_succ, i64_w, i32_w]
                    rfl
                  refine take_ (i := 19) (N := some 159) (v := ?_) (a' := ?_) #[true, true, true, false, true, false, false, true, false, false, false, true, false, true, true, true, false, true, true, true, false, false] rfl rfl (by kernel_rfl) (fun _ _ _ h => h) (Or.inl ⟨by rfl, ?_⟩) hHeld ?_ ?_
                  rotate_left
                  · rintro w' ⟨s0, s1, s2⟩
                    go_simp
                    with_reducible rfl
                  rotate_left
                  · simp only [Act.put, List.setIfInBounds_toArray, List.set_cons_zero, List.set_cons_succ, i64_w, i32_w]
                    rfl
                  refine one_ (i := 3) (N := some 143) #[true, true, true, true, true, false, false, true, false, false, false, true, false, true, true, true, false, true, true, true, false, false] rfl rfl (by kernel_rfl) (by decide) (fun K hK => ?_)
                  refine goes_ Tryd.func56 (by kernel_rfl) rfl #[.int .u32 (e.toNat : Int), .int .i64 6] (by rfl) rfl rfl (by simp only [List.map_toArray, List.map_cons, List.map_nil]; rfl) ?_
                  with_reducible refine ((T1 _)).mono ?_
                  rintro e' wa ⟨rfl, qa⟩
                  refine ⟨_, rfl, ?_⟩
                  have a7 := below_cell qa y7
                  have ak := below_cell qa yk
                  have aw := below_cell qa yw
                  have Wa : WordsAt wa gs [a, b, c₂, d, e, f, g, h] 97 := WordsAt.below (show WordsAt wr.drew.drew gs [a, b, c₂, d, e, f, g, h] 97 from hS) qa
                  refine hK.out _ _ ⟨a7, ak, aw⟩ (fun hHeld => ?_)
                  clear hK K
                  refine norm_ (a' := ?_) ?_ ?_
                  rotate_left
                  · show Act.put _ (some 143) _ = _
                    simp only [Act.put, List.setIfInBounds_toArray, List.set_cons_zero, List.set_cons_succ, i64_w, i32_w]
                    rfl
                  refine one_ (i := 5) (N := some 145) #[true, true, true, true, true, true, false, true, false, false, false, true, false, true, true, true, false, true, true, true, false, false] rfl rfl (by kernel_rfl) (by decide) (fun K hK => ?_)
                  refine goes_ Tryd.func56 (by kernel_rfl) rfl #[.int .u32 (e.toNat : Int), .int .i64 11] (by rfl) rfl rfl (by simp only [List.map_toArray, List.map_cons, List.map_nil]; rfl) ?_
                  with_reducible refine ((T2 _)).mono ?_
                  rintro e' wb ⟨rfl, qb⟩
                  refine ⟨_, rfl, ?_⟩
                  have b7 := below_cell qb a7
                  have bk := below_cell qb ak
                  have bw := below_cell qb aw
                  have Wb : WordsAt wb gs [a, b, c₂, d, e, f, g, h] 97 := WordsAt.below Wa qb
                  refine hK.out _ _ ⟨b7, bk, bw⟩ (fun hHeld => ?_)
                  clear hK K
                  refine norm_ (a' := ?_) ?_ ?_
                  rotate_left
                  · show Act.put _ (some 145) _ = _
                    simp only [Act.put, List.setIfInBounds_toArray, List.set_cons_zero, List.set_cons_succ, i64_w, i32_w]
                    rfl
                  refine pure_ (i := 6) (N := some 146) (v := ?_) (a' := ?_) #[true, true, true, true, true, true, true, true, false, false, false, true, false, true, true, true, false, true, true, true, false, false] rfl rfl (by kernel_rfl) (fun _ _ _ h => h) (Or.inl ⟨by rfl, ?_⟩) ?_ ?_
                  rotate_left
                  · intro w'
                    go_simp
                    with_reducible rfl
                  rotate_left
                  · simp only [Act.put, List.setIfInBounds_toArray, List.set_cons_zero, List.set_cons_succ, i64_w, i32_w]
                    rfl
                  refine one_ (i := 8) (N := some 148) #[true, true, true, true, true, true, true, true, true, false, false, true, false, true, true, true, false, true, true, true, false, false] rfl rfl (by kernel_rfl) (by decide) (fun K hK => ?_)
                  refine goes_ Tryd.func56 (by kernel_rfl) rfl #[.int .u32 (e.toNat : Int), .int .i64 25] (by rfl) rfl rfl (by simp only [List.map_toArray, List.map_cons, List.map_nil]; rfl) ?_
                  with_reducible refine ((T3 _)).mono ?_
                  rintro e' wc ⟨rfl, qc⟩
                  refine ⟨_, rfl, ?_⟩
                  have d7 := below_cell qc b7
                  have dk := below_cell qc bk
                  have dw := below_cell qc bw
                  have Wc : WordsAt wc gs [a, b, c₂, d, e, f, g, h] 97 := WordsAt.below Wb qc
                  refine hK.out _ _ ⟨d7, dk, dw⟩ (fun hHeld => ?_)
                  clear hK K
                  refine norm_ (a' := ?_) ?_ ?_
                  rotate_left
                  · show Act.put _ (some 148) _ = _
                    simp only [Act.put, List.setIfInBounds_toArray, List.set_cons_zero, List.set_cons_succ, i64_w, i32_w]
                    rfl
                  refine pure_ (i := 9) (N := some 149) (v := ?_) (a' := ?_) #[true, true, true, true, true, true, true, true, true, true, false, true, false, true, true, true, false, true, true, true, false, false] rfl rfl (by kernel_rfl) (fun _ _ _ h => h) (Or.inl ⟨by rfl, ?_⟩) ?_ ?_
                  rotate_left
                  · intro w'
                    go_simp
                    with_reducible rfl
                  rotate_left
                  · simp only [Act.put, List.setIfInBounds_toArray, List.set_cons_zero, List.set_cons_succ, i64_w, i32_w]
                    rfl
                  refine pure_ (i := 10) (N := some 150) (v := ?_) (a' := ?_) #[true, true, true, true, true, true, true, true, true, true, true, true, false, true, true, true, false, true, true, true, false, false] rfl rfl (by kernel_rfl) (fun _ _ _ h => h) (Or.inl ⟨by rfl, ?_⟩) ?_ ?_
                  rotate_left
                  · intro w'
                    go_simp
                    with_reducible rfl
                  rotate_left
                  · simp only [Act.put, List.setIfInBounds_toArray, List.set_cons_zero, List.set_cons_succ, i64_w, i32_w]
                    rfl
                  refine pure_ (i := 12) (N := some 152) (v := ?_) (a' := ?_) #[true, true, true, true, true, true, true, true, true, true, true, true, true, true, true, true, false, true, true, true, false, false] rfl rfl (by kernel_rfl) (fun _ _ _ h => h) (Or.inl ⟨by rfl, ?_⟩) ?_ ?_
                  rotate_left
                  · intro w'
                    go_simp
                    with_reducible rfl
                  rotate_left
                  · simp only [Act.put, List.setIfInBounds_toArray, List.set_cons_zero, List.set_cons_succ, i64_w, i32_w]
                    rfl
                  refine pure_ (i := 16) (N := some 156) (v := ?_) (a' := ?_) #[true, true, true, true, true, true, true, true, true, true, true, true, true, true, true, true, true, true, true, true, false, false] rfl rfl (by kernel_rfl) (fun _ _ _ h => h) (Or.inl ⟨by rfl, ?_⟩) ?_ ?_
                  rotate_left
                  · intro w'
                    go_simp
                    with_reducible rfl
                  rotate_left
                  · simp only [Act.put, List.setIfInBounds_toArray, List.set_cons_zero, List.set_cons_succ, i64_w, i32_w]
                    rfl
                  refine pure_ (i := 20) (N := some 160) (v := ?_) (a' := ?_) #[true, true, true, true, true, true, true, true, true, true, true, true, true, true, true, true, true, true, true, true, true, false] rfl rfl (by kernel_rfl) (fun _ _ _ h => h) (Or.inl ⟨by rfl, ?_⟩) ?_ ?_
                  rotate_left
                  · intro w'
                    go_simp
                    with_reducible rfl
                  rotate_left
                  · simp only [Act.put, List.setIfInBounds_toArray, List.set_cons_zero, List.set_cons_succ, i64_w, i32_w]
                    rfl
                  refine pure_ (i := 21) (N := some 17) (v := ?_) (a' := ?_) #[true, true, true, true, true, true, true, true, true, true, true, true, true, true, true, true, true, true, true, true, true, true] rfl rfl (by kernel_rfl) (fun _ _ _ h => h) (Or.inl ⟨by rfl, ?_⟩) ?_ ?_
                  rotate_left
                  · intro w'
                    go_simp
                    with_reducible rfl
                  rotate_left
                  · simp only [Act.put, List.setIfInBounds_toArray, List.set_cons_zero, List.set_cons_succ, i64_w, i32_w]
                    rfl
                  refine done_ (by kernel_rfl) ?_
                  have Kc : Keeps (fun j => j = gs) W4 wc := Keeps.below (Keeps.below (Keeps.below hKS.drew.drew qa) qb) qc
                  clear a7 ak aw b7 bk bw d7 dk dw Wa Wb qa qb qc hKS hS y0 y1 y2 y4 y5 y6 y7 yk yw N1 N2 P1 P2 P3 P4 P5 P6 P7 P8 X1 X2 A1 A2 A3 A4 T1 T2 T3 pk
                  go_wp2_with fail
                  refine (U1 _).mono ?_
                  rintro e' wd ⟨rfl, qd⟩
                  go_wp2_with fail
                  refine (U2 _).mono ?_
                  rintro e' we ⟨rfl, qe⟩
                  go_wp2_with fail
                  refine (U3 _).mono ?_
                  rintro e' wf ⟨rfl, qf⟩
                  have Wf := ((Wc.below qd).below qe).below qf
                  have Kf := ((Kc.below qd).below qe).below qf
                  clear Wc Kc qd qe qf U1 U2 U3
                  go_wp2
                  rw [Y3]
                  go_loopw [19] (fun i wz => ∃ j : Nat, j ≤ 7 ∧ i = .int .i64 j ∧ WordsAt wz gs (sh [a, b, c₂, d, e, f, g, h] j) 97 ∧ Keeps (fun j => j = gs) W4 wz) (fun i _ => (intOf i).toNat)
                  case atStart => exact ⟨7, Nat.le_refl _, rfl, by rw [sh_start (l := [a, b, c₂, d, e, f, g, h]) rfl]; exact Wf, Kf⟩
                  case round =>
                    clear Wf Kf
                    obtain ⟨j, hj, rfl, hZ, hKZ⟩ := hrel
                    have lZ := sh_length (l := [a, b, c₂, d, e, f, g, h]) rfl hj
                    by_cases hj0 : 0 < j
                    · obtain ⟨i, hi⟩ : ∃ i, j = i + 1 := ⟨j - 1, by omega⟩
                      have e1 : (j : Int) - 1 = (i : Int) := by omega
                      have hi8 : i < 8 := by omega
                      have hj8 : j < 8 := by omega
                      have hij : i < j := by omega
                      have hi7 : i ≤ 7 := by omega
                      have tj : decide ((0 : Int) < (j : Int)) = true := by simp; omega
                      have c1 := hZ.cell i (by omega)
                      have cj := hZ.cell j (by omega)
                      have fj := hZ.free j
                      have HSz := hZ.set j ((sh [a, b, c₂, d, e, f, g, h] j).getD i 0)
                      have HE : (sh [a, b, c₂, d, e, f, g, h] j).set j ((sh [a, b, c₂, d, e, f, g, h] j).getD i 0) = sh [a, b, c₂, d, e, f, g, h] i := by rw [hi]; exact sh_next (l := [a, b, c₂, d, e, f, g, h]) rfl (by omega)
                      rw [HE] at HSz
                      obtain ⟨x, hx⟩ : ∃ x, x = (sh [a, b, c₂, d, e, f, g, h] j).getD i 0 := ⟨_, rfl⟩
                      rw [← hx] at c1 HSz
                      have HS := hid HSz
                      have HK := hid (hKZ.then (Keeps.set1 wr gs j (.int .u32 (x.toNat : Int))) (fun _ _ e => e))
                      clear HE hx HSz hi hZ hKZ lZ Y1 Y2 Y3 Y4 Y5
                      go_wp2
                      go_roundw
                      case rel => exact ⟨i, hi7, rfl, HS.out, HK.out⟩
                      case measure => simp [intOf]; omega
                    · obtain rfl : j = 0 := by omega
                      have c4 := hZ.cell 4 (by omega)
                      have c0 := hZ.cell 0 (by omega)
                      have f4 := hZ.free 4
                      have f0 := hZ.free 0
                      have c4' : wr.cell? ⟨gs, 4, none⟩ = some (.int .u32 (d.toNat : Int)) := c4
                      have HS1 := hZ.set 4 (wAdd d (roundT kk wk e f g h))
                      have HS2 := HS1.set 0 (wAdd (roundT kk wk e f g h) (roundU a b c₂))
                      have HS : WordsAt ((wr.setCell ⟨gs, 4, none⟩ (.int .u32 ((wAdd d (roundT kk wk e f g h)).toNat : Int))).setCell ⟨gs, 0, none⟩ (.int .u32 ((wAdd (roundT kk wk e f g h) (roundU a b c₂)).toNat : Int))) gs (rounds m16 (k + 1) [s0, s1, s2, s3, s4, s5, s6, s7]) 97 := by rw [hnx.out]; exact HS2
                      have HK := (hKZ.then (Keeps.set1 wr gs 4 (.int .u32 ((wAdd d (roundT kk wk e f g h)).toNat : Int))) (fun _ _ e => e)).then (Keeps.set1 _ gs 0 (.int .u32 ((wAdd (roundT kk wk e f g h) (roundU a b c₂)).toNat : Int))) (fun _ _ e => e)
                      clear c4 HS1 HS2 hZ hKZ lZ hj0 hj
                      go_wp2
                      go_roundw
                      case rel => exact ⟨k + 1, by omega, by go_num, HS, HK⟩
                      case measure => simp [intOf]; omega
                · obtain rfl : k = 64 := by omega
                  obtain ⟨W6, hW6⟩ : ∃ W, W = wr := ⟨_, rfl⟩
                  subst hW6
                  have hK6 := hK4.keeps hKS (fun e => hsk e.symm)
                  have hH6 := hH4.keeps hKS (fun e => hsh e.symm)
                  have hR6 := hR4.keeps hKS (fun ad e e' => oq4.out ad e e')
                  have hB6 := hB4.trans (below_of_keeps hKS (Nat.le_trans hBw hB4.size) (fun k hk => by omega))
                  have lF := rounds_length m16 L8 64
                  have hC := hid (show comp m16 [s0, s1, s2, s3, s4, s5, s6, s7] = List.zipWith wAdd [s0, s1, s2, s3, s4, s5, s6, s7] (rounds m16 64 [s0, s1, s2, s3, s4, s5, s6, s7]) from rfl)
                  obtain ⟨FF, hFF⟩ : ∃ f, f = rounds m16 64 [s0, s1, s2, s3, s4, s5, s6, s7] := ⟨_, rfl⟩
                  rw [← hFF] at hS lF hC
                  obtain ⟨SS, hSS⟩ : ∃ s, s = [s0, s1, s2, s3, s4, s5, s6, s7] := ⟨_, rfl⟩
                  rw [← hSS] at hH6 L8 hC HNX
                  have h60 : WordsAt W6 gh (added SS FF 0) 97 := by simpa [added] using hH6
                  have oq6 := hid (hR6.other h60 (by decide))
                  have hKH : Keeps (fun j => j = gh) W6 W6 := Keeps.refl _ _
                  clear hFF hSS hKS hK4 hW4 hH4 hR4 hB4 oq4 hH6
                  go_wp2
                  go_loopw [20] (fun i wy => ∃ k : Nat, k ≤ 8 ∧ i = .int .i64 k ∧ WordsAt wy gh (added SS FF k) 97 ∧ Keeps (fun j => j = gh) W6 wy) (fun i _ => 8 - (intOf i).toNat)
                  case atStart => exact ⟨0, Nat.zero_le _, rfl, h60, hKH⟩
                  case round =>
                    clear h60 hKH
                    obtain ⟨k, hk, rfl, hH, hKH⟩ := hrel
                    by_cases hlt8 : k < 8
                    · have c1 := hH.cell k (by rw [added_length L8 lF hk]; exact hlt8)
                      rw [added_get L8 lF hlt8] at c1
                      have hSr := hS.keeps hKH hsh
                      have c2 := hSr.cell k (by omega)
                      have f1 := hH.free k
                      have hN := hH.set k (wAdd (SS.getD k 0) (FF.getD k 0))
                      rw [added_next L8 lF hlt8] at hN
                      obtain ⟨xx, hxx⟩ : ∃ x, x = SS.getD k 0 := ⟨_, rfl⟩
                      obtain ⟨yy, hyy⟩ : ∃ x, x = FF.getD k 0 := ⟨_, rfl⟩
                      rw [← hxx] at c1 hN
                      rw [← hyy] at c2 hN
                      have A1 := word_addW xx yy
                      have HN' := hid hN
                      have HK := hid (hKH.then (Keeps.set1 wr gh k (.int .u32 ((wAdd xx yy).toNat : Int))) (fun _ _ e => e))
                      have t8 : decide ((k : Int) < 8) = true := by simp; omega
                      have q8 : ((k : Int) < 8) = True := eq_true (Int.ofNat_lt.2 hlt8)
                      clear hxx hyy hH hKH hN hSr
                      go_wp2
                      refine start_ (n := 9) (S := fun w' => w'.cell? ⟨gh, k, none⟩ = some (.int .u32 (xx.toNat : Int)) ∧ w'.cell? ⟨gs, k, none⟩ = some (.int .u32 (yy.toNat : Int)) ∧ w'.frozen? ⟨gh, k, none⟩ = false) (ds := [8]) #[false, false, false, false, false, false, false, false, false] (by kernel_rfl) rfl rfl ⟨c1, c2, f1⟩ (fun hHeld => ?_)
                      refine pure_ (i := 0) (N := some 194) (v := ?_) (a' := ?_) #[true, false, false, false, false, false, false, false, false] rfl rfl (by kernel_rfl) (fun _ _ _ h => h) (Or.inl ⟨by rfl, ?_⟩) ?_ ?_
                      rotate_left
                      · intro w'
                        go_simp
                        with_reducible rfl
                      rotate_left
                      · simp only [Act.put, List.setIfInBounds_toArray, List.set_cons_zero, List.set_cons_succ, i64_w, i32_w]
                        rfl
                      refine pure_ (i := 1) (N := some 195) (v := ?_) (a' := ?_) #[true, true, false, false, false, false, false, false, false] rfl rfl (by kernel_rfl) (fun _ _ _ h => h) (Or.inl ⟨by rfl, ?_⟩) ?_ ?_
                      rotate_left
                      · intro w'
                        go_simp
                        with_reducible rfl
                      rotate_left
                      · simp only [Act.put, List.setIfInBounds_toArray, List.set_cons_zero, List.set_cons_succ, i64_w, i32_w]
                        rfl
                      refine pure_ (i := 3) (N := some 197) (v := ?_) (a' := ?_) #[true, true, false, true, false, false, false, false, false] rfl rfl (by kernel_rfl) (fun _ _ _ h => h) (Or.inl ⟨by rfl, ?_⟩) ?_ ?_
                      rotate_left
                      · intro w'
                        go_simp
                        with_reducible rfl
                      rotate_left
                      · simp only [Act.put, List.setIfInBounds_toArray, List.set_cons_zero, List.set_cons_succ, i64_w, i32_w]
                        rfl
                      refine pure_ (i := 4) (N := some 198) (v := ?_) (a' := ?_) #[true, true, false, true, true, false, false, false, false] rfl rfl (by kernel_rfl) (fun _ _ _ h => h) (Or.inl ⟨by rfl, ?_⟩) ?_ ?_
                      rotate_left
                      · intro w'
                        go_simp
                        with_reducible rfl
                      rotate_left
                      · simp only [Act.put, List.setIfInBounds_toArray, List.set_cons_zero, List.set_cons_succ, i64_w, i32_w]
                        rfl
                      refine take_ (i := 2) (N := some 196) (v := ?_) (a' := ?_) #[true, true, true, true, true, false, false, false, false] rfl rfl (by kernel_rfl) (fun _ _ _ h => h) (Or.inl ⟨by rfl, ?_⟩) hHeld ?_ ?_
                      rotate_left
                      · rintro w' ⟨s0, s1, s2⟩
                        go_simp
                        with_reducible rfl
                      rotate_left
                      · simp only [Act.put, List.setIfInBounds_toArray, List.set_cons_zero, List.set_cons_succ, i64_w, i32_w]
                        rfl
                      refine take_ (i := 5) (N := some 199) (v := ?_) (a' := ?_) #[true, true, true, true, true, true, false, false, false] rfl rfl (by kernel_rfl) (fun _ _ _ h => h) (Or.inl ⟨by rfl, ?_⟩) hHeld ?_ ?_
                      rotate_left
                      · rintro w' ⟨s0, s1, s2⟩
                        go_simp
                        with_reducible rfl
                      rotate_left
                      · simp only [Act.put, List.setIfInBounds_toArray, List.set_cons_zero, List.set_cons_succ, i64_w, i32_w]
                        rfl
                      refine pure_ (i := 6) (N := some 200) (v := ?_) (a' := ?_) #[true, true, true, true, true, true, true, false, false] rfl rfl (by kernel_rfl) (fun _ _ _ h => h) (Or.inl ⟨by rfl, ?_⟩) ?_ ?_
                      rotate_left
                      · intro w'
                        go_simp
                        with_reducible rfl
                      rotate_left
                      · simp only [Act.put, List.setIfInBounds_toArray, List.set_cons_zero, List.set_cons_succ, i64_w, i32_w]
                        rfl
                      refine pure_ (i := 7) (N := some 201) (v := ?_) (a' := ?_) #[true, true, true, true, true, true, true, true, false] rfl rfl (by kernel_rfl) (fun _ _ _ h => h) (Or.inl ⟨by rfl, ?_⟩) ?_ ?_
                      rotate_left
                      · intro w'
                        go_simp
                        with_reducible rfl
                      rotate_left
                      · simp only [Act.put, List.setIfInBounds_toArray, List.set_cons_zero, List.set_cons_succ, i64_w, i32_w]
                        rfl
                      refine last_ (i := 8) (N := none) #[true, true, true, true, true, true, true, true, true] rfl rfl (by kernel_rfl) (by decide) (fun K hK => ?_)
                      refine skip_ (w1 := ?_) (by rfl) rfl ?_ ?_
                      rotate_left
                      · go_simp
                        rfl
                      refine hK.out _ _ ?_
                      clear hK K
                      refine done_ (by kernel_rfl) ?_
                      clear q8
                      go_wp2
                      go_roundw
                      case rel => exact ⟨k + 1, by omega, by go_num, HN'.out, HK.out.drew⟩
                      case measure => simp [intOf]; omega
                    · obtain rfl : k = 8 := by omega
                      rw [added_all L8 lF, ← hC.out, ← HNX.out] at hH
                      have hK7 := hK6.keeps hKH hkh
                      have hR7 := hR6.keeps hKH (fun ad e e' => oq6.out ad e e')
                      have hB7 := hB6.trans (below_of_keeps hKH (Nat.le_trans hBw hB6.size) (fun k hk => by omega))
                      have hav' : Hid (av + 64 = 64 * (kb + 1)) := hid (by have := hav.out; omega)
                      clear hK6 hR6 hB6 hKH hS
                      go_wp2
                      go_roundw
                      case rel => exact ⟨kb + 1, av + 64, hkN, hav', by go_num, hroom, hR7, hK7, hH, hB7⟩
                      case measure => simp [intOf]; omega
        · have haq : av = QL := by omega
          have tav : decide ((av : Int) < (QL : Int)) = false := by simp; omega
          have hkN : q.length ≤ 64 * kb := by rw [ql'.out]; have := hav.out; omega
          rw [List.take_of_length_le hkN] at hH
          have lS : (run first q).1.length = 8 := run_length rfl _
          have HR2 := hid (show res = bytesOf (run first q).1 by rw [HRES.out, HQ.out]; rfl)
          obtain ⟨SS, hSS⟩ : ∃ s, s = (run first q).1 := ⟨_, rfl⟩
          rw [← hSS] at hH lS HR2
          have P9 : ∃ (k L : Nat) (R : Option Addr) (c : Nat), k ≤ 8 ∧ Hid (L = 4 * k) ∧ Value.int .i64 0 = .int .i64 k ∧ Value.slice none 0 0 = .slice R L c ∧ Row wr B R c (bytesOf (SS.take k)) ∧ WordsAt wr gh SS 97 ∧ Below B w wr :=
            ⟨0, 0, none, 0, by omega, hid rfl, rfl, rfl, Row.nil _ _, hH, hBW⟩
          clear hR hK hH hBW hkN hSS haq
          go_wp2
          go_loopw [21, 22] (fun v i wy => ∃ (k L : Nat) (R : Option Addr) (c : Nat), k ≤ 8 ∧ Hid (L = 4 * k) ∧ i = .int .i64 k ∧ v = .slice R L c ∧ Row wy B R c (bytesOf (SS.take k)) ∧ WordsAt wy gh SS 97 ∧ Below B w wy) (fun _ i _ => 8 - (intOf i).toNat)
          case atStart => exact P9
          case round =>
            clear P9
            obtain ⟨k, L9, R9, c9, hk9, hL9, rfl, rfl, hR, hH, hBW⟩ := hrel
            have sB9 := Nat.le_trans hBw hBW.size
            have lb : (bytesOf (SS.take k)).length = L9 := by rw [bytesOf_length, List.length_take, hL9.out]; omega
            by_cases hlt9 : k < 8
            · have t8 : decide ((k : Int) < 8) = true := by simp; omega
              have cx := hH.cell k (by omega)
              have HN9 := hid (bytesOf_next SS k (by omega))
              obtain ⟨x, hx⟩ : ∃ x, x = SS.getD k 0 := ⟨_, rfl⟩
              rw [← hx] at cx HN9
              have xl := word_lt x
              have ax : (x.toNat : Int) % 18446744073709551616 = (x.toNat : Int) := by omega
              have HU := hid (num_any (w := wr) (n := x.toNat) (m := 4) (by omega))
              have L32 : L9 ≤ 32 := by have := hL9.out; omega
              have hL9' : Hid (L9 + 4 = 4 * (k + 1)) := hid (by have := hL9.out; omega)
              clear hx
              go_wp2_with fail
              refine HU.out.mono ?_
              rintro e w6 ⟨A6, c6, rfl, r6, n6, b6⟩
              have n6' := n6 (by omega)
              obtain ⟨a6, rfl⟩ : ∃ a, A6 = some a := by cases A6 with
                | none => exact absurd rfl n6'
                | some a => exact ⟨a, rfl⟩
              have hR6 := hR.below b6
              have hH6 := hH.below b6
              have hB6 := hBW.trans (b6.mono sB9)
              have s6 := Nat.le_trans sB9 b6.size
              have l4 := numBytes_length x.toNat 4
              clear HU hR hH hBW n6 n6' cx
              go_wp2_with (refine wpList_appR rfl (.tmp 206) (.tmp 211) rfl B s6 R9 c9 (bytesOf (SS.take k)) (by rw [lb]; rfl) hR6 a6 c6 (numBytes x.toNat 4) (by rw [l4]; rfl) r6.bsa (by rw [lb, l4]; omega) (L9 + 4) (by rw [lb, l4]) ?_)
              intro R7' c7' w7' r7' b7' K7' n7'
              have o2 := hR6.other hH6 (by decide)
              have hH7' : WordsAt w7' gh SS 97 := hH6.keeps K7' (fun ⟨ad, e, e'⟩ => o2 ad e e')
              have b67' := hB6.trans b7'
              have r8' : Row w7' B R7' c7' (bytesOf (SS.take (k + 1))) := by rw [HN9.out]; exact r7'
              clear o2 hR6 hH6 r6 b6 b7' K7' n7' hB6 r7' lb
              go_wp2
              go_roundw
              case rel => exact ⟨k + 1, L9 + 4, R7', c7', by omega, hL9', by go_num, rfl, r8', hH7', b67'⟩
              case measure => simp [intOf]; omega
            · obtain rfl : k = 8 := by omega
              rw [List.take_of_length_le (by omega), ← HR2.out] at hR lb
              have CV := conv_row hR
              rw [lb] at CV
              clear hR lb hH
              go_wp2
              go_ret
              exact ⟨rfl, hBW⟩
    · have t56 : ((m : Int) != 56) = true := by simp; omega
      have hk2 : k < nn := by
        rcases Nat.lt_or_ge k nn with e | e
        · exact e
        · have := hNsp.out
          have := hm'.out
          have := hL.out
          have : k = nn := by omega
          subst this
          omega
      have al := below_alloc (Below.refl _ wr) (.cells #[.int .u8 ((0 : UInt8).toNat : Int)] 5)
      have hRa := hR.below al
      have hKa := hK.below al
      have hHa := hH.below al
      have hBa := hBW.alloc sB (.cells #[.int .u8 ((0 : UInt8).toNat : Int)] 5)
      clear hR hK hH hBW
      go_wp2_with (refine wpList_appR rfl (.tmp 32) (.tmp 33) rfl B (Nat.le_trans sB al.size) R c' (p ++ [128] ++ List.replicate k 0) (by rw [ll]; rfl) hRa _ 1 [0] rfl (lit_bsa wr 0) (by rw [ll]; simp; omega) (L + 1) (by rw [ll]; rfl) ?_)
      intro R7 c7 w7 r7 b7 K7 n7
      have o1 := hRa.other hKa (by decide)
      have o2 := hRa.other hHa (by decide)
      have hK7 : WordsAt w7 gk roundK 95 := hKa.keeps K7 (fun ⟨ad, e, e'⟩ => o1 ad e e')
      have hH7 : WordsAt w7 gh first 97 := hHa.keeps K7 (fun ⟨ad, e, e'⟩ => o2 ad e e')
      have b67 := hBa.trans b7
      have HL : Hid (L + 1 = p.length + 1 + (k + 1)) := hid (by have := hL.out; omega)
      clear o1 o2 hRa hKa hHa al b7 K7 n7 hBa
      go_wp2
      exact ⟨⟨k + 1, L + 1, R7, c7, by omega, HL, rfl, by simpa [List.replicate_succ'] using r7, hK7, hH7, b67⟩, by simp [sliceLen]; have := hL.out; omega⟩
end Go.Proofs.YtmbgfjcmdolggaaDoor
