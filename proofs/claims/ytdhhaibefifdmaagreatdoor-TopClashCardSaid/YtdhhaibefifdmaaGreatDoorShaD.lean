/- Bytes that wait, in a row that may begin inside its block; the walk of write. -/
import Derived.Test.YtdhhaibefifdmaaGreatDoorShaC
import Derived.ArgAppend
set_option linter.unusedVariables false
set_option linter.unusedSimpArgs false
namespace Go.Proofs.YtdhhaibefifdmaaGreatDoor
open Go.RowKit PrintLast

/-- The bytes l wait in a slice of the hasher's own: its room lies behind them, in one block. -/
def WaitAt (w : World) (R : Option Addr) (c : Nat) (l : List UInt8) : Prop :=
  l.length ≤ c ∧ c ≤ maxLen ∧ ((R = none ∧ c = 0) ∨ ∃ g off cur, R = some ⟨g, off, none⟩ ∧ w.heap[g]? = some (.cells cur 5 (0, 0)) ∧ off + c ≤ cur.size ∧ ∀ j (hj : j < l.length), cur[off + j]? = some (.int .u8 (l[j].toNat : Int)))

theorem WaitAt.nil (w : World) : WaitAt w none 0 [] := ⟨Nat.le_refl _, by unfold maxLen; omega, .inl ⟨rfl, rfl⟩⟩
theorem WaitAt.of_own {w : World} {base n : Nat} {A : Option Addr} {m c : Nat} {l : List UInt8} (h : w.ownsRow base 5 1 (.slice A m c) n (bytesV l)) : WaitAt w A c l := by
  have h0 := h
  obtain ⟨h1, h2⟩ := h
  have hl : l.length = n := by simpa [bytesV] using h1
  rcases h2 with ⟨e1, rfl⟩ | ⟨g, cap, cur, e1, hb, hh, hn, hc, hs, ht⟩
  · cases e1
    obtain rfl := List.eq_nil_of_length_eq_zero hl
    exact WaitAt.nil w
  · cases e1
    refine ⟨by omega, by simpa using hc, .inr ⟨g, 0, cur, rfl, hh, by omega, fun j hj => ?_⟩⟩
    have := h0.cells (g := g) rfl j _ (bytesV_get l j hj)
    rw [add_plain, cell_of_row w g j cur _ _ hh] at this
    simpa using this
theorem WaitAt.bsa {w : World} {R : Option Addr} {c : Nat} {l : List UInt8} (h : WaitAt w R c l) : BSA w R c l := by
  obtain ⟨h1, h2, h3⟩ := h
  refine ⟨h1, h2, fun e => ?_, fun ad e j hj => ?_⟩
  · rcases h3 with ⟨_, h3⟩ | ⟨g, off, cur, e', _⟩
    · exact h3
    · rw [e] at e'; cases e'
  · rcases h3 with ⟨e', h3⟩ | ⟨g, off, cur, e', h4, h5, h6⟩
    · rw [e] at e'; cases e'
    · rw [e] at e'
      cases e'
      have : (⟨g, off, none⟩ : Addr).add j = ⟨g, off + j, none⟩ := by unfold Addr.add; split <;> simp_all
      rw [this, cell_of_row w g (off + j) cur _ _ h4]
      exact h6 j hj
theorem WaitAt.keeps {S : Nat → Prop} {w w' : World} {R : Option Addr} {c : Nat} {l : List UInt8} (h : WaitAt w R c l) (hk : Keeps S w w') (hn : ∀ ad, R = some ad → ¬ S ad.block) : WaitAt w' R c l := by
  obtain ⟨h1, h2, h3⟩ := h
  refine ⟨h1, h2, ?_⟩
  rcases h3 with h3 | ⟨g, off, cur, rfl, h4, h5⟩
  · exact .inl h3
  · exact .inr ⟨g, off, cur, rfl, hk.heap h4 (hn _ rfl), h5⟩
theorem WaitAt.below {w w' : World} {R : Option Addr} {c : Nat} {l : List UInt8} (h : WaitAt w R c l) (hb : Below w.heap.size w w') : WaitAt w' R c l := h.keeps (S := fun _ => False) (Keeps.of_below hb) (fun _ _ e => e)
/-- It is no block of another type. -/
theorem WaitAt.other {w : World} {R : Option Addr} {c : Nat} {l : List UInt8} (h : WaitAt w R c l) {b : Nat} {cs : Array Value} {t : TypeId} {fr : Nat × Nat} (hb : w.heap[b]? = some (.cells cs t fr)) (ht : t ≠ 5) : ∀ ad, R = some ad → ad.block ≠ b := by
  intro ad e e'
  rcases h.2.2 with ⟨h3, _⟩ | ⟨g, off, cur, h3, h4, _⟩
  · rw [e] at h3; cases h3
  · rw [e] at h3
    cases h3
    subst e'
    rw [h4] at hb
    simp only [Option.some.injEq, Obj.cells.injEq] at hb
    exact ht hb.2.1.symm
/-- The first k let go. -/
theorem WaitAt.drop {w : World} {g off c : Nat} {l : List UInt8} (h : WaitAt w (some ⟨g, off, none⟩) c l) (k : Nat) (hk : k ≤ l.length) : WaitAt w (some ⟨g, off + k, none⟩) (c - k) (l.drop k) := by
  obtain ⟨h1, h2, h3⟩ := h
  refine ⟨by simp; omega, by omega, ?_⟩
  rcases h3 with ⟨h3, _⟩ | ⟨g', off', cur, h3, h4, h5, h6⟩
  · cases h3
  · cases h3
    refine .inr ⟨g, off + k, cur, rfl, h4, by omega, fun j hj => ?_⟩
    have hj' : k + j < l.length := by simp at hj; omega
    have := h6 (k + j) hj'
    simp only [List.getElem_drop]
    rw [← this]
    congr 1
    omega

/-- 'append' onto what waits: the first bytes of all, or one byte more. -/
theorem wpList_appW {w : World} {ops : Array Oper} {rest : List Oper} {o : Oper} {a : Act} {Q : Exit → Act → World → Prop} (hgd : o.guard = none) (s x : Operand)
    (ho : o.op = .call { callee := .builtin .append, args := #[s, x], argTypes := #[22, 22] })
    (R : Option Addr) (c : Nat) (l : List UInt8) (hs : a.eval s = .slice R l.length c) (hW : WaitAt w R c l) (A : Option Addr) (c2 : Nat) (q : List UInt8) (hx : a.eval x = .slice A q.length c2) (hb : BSA w A c2 q)
    (hq : R = none ∨ q.length = 1) (h47 : l.length + q.length ≤ 140737488355328)
    (h : ∀ R' c' w', WaitAt w' R' c' (l ++ q) → Keeps (fun k => ∃ ad, R = some ad ∧ ad.block = k) w w' → (∀ ad, R' = some ad → (∃ ad', R = some ad' ∧ ad'.block = ad.block) ∨ w.heap.size ≤ ad.block) → wpList Tryz.prog ops Q rest (a.put o.dst (.slice R' (l.length + q.length) c')) w') : wpList Tryz.prog ops Q (o :: rest) a w := by
  obtain ⟨h1, h2, h3⟩ := hW
  rcases h3 with ⟨rfl, rfl⟩ | ⟨g, off, cur, rfl, h4, h5, h6⟩
  · have hl : l = [] := List.eq_nil_of_length_eq_zero (by omega)
    subst hl
    refine wpList_app8 22 5 Tryz.underlying22 (by kernel_rfl) hgd s x ho (.slice none 0 0) [] hs (World.ownsRow_nil _ _ _ _) A c2 q hx hb h47 ?_
    intro A' c' w' k1 k2 k3 k4
    refine h A' c' w' (WaitAt.of_own k1) ((Keeps.refl _ w).grown k2 (fun k e => by cases e)) (fun ad e => .inr ?_)
    rcases k3 with k3 | k3
    · cases A' with
      | none => cases e
      | some ad' => simp [Value.ownBlock] at k3
    · cases A' with
      | none => cases e
      | some ad' =>
        cases e
        simp only [Value.ownBlock, Option.some.injEq] at k3
        omega
  · rcases hq with hq | hq
    · cases hq
    · obtain ⟨n1, n2, n3⟩ := bsa_news hb
      obtain ⟨v0, rfl⟩ : ∃ v0, q = [v0] := by
        match q, hq with
        | [v0], _ => exact ⟨v0, rfl⟩
      cases A with
      | none => have := (n2 rfl).1; simp at this
      | some ad =>
        obtain ⟨i0, hi, hz0, hz1, hz2⟩ := info_parts (show (Tryz.prog.info? 5).map (fun i => (i.zero, i.size, i.bytes)) = some (some (.int .u8 0), 1, 1) by kernel_rfl)
        have hcell : ∀ j, w.cell? ⟨g, j, none⟩ = cur[j]? := fun j => cell_of_row w g j cur _ _ h4
        refine wpList_append_arg w hgd s x 22 ho 5 i0 (.int .u8 0) 1 1 Tryz.underlying22 hi hz0 hz1 hz2 rfl (by decide) g off l.length c (bytesV l) hs (by simp [bytesV]) ?_ ad 1 c2 (bytesV [v0]) hx (by simp [bytesV]) (n3 ad rfl) (bytesV_one _) ?_ (by unfold maxLen; simp at h47; omega) (by simp at h47; omega) ?_ ?_
        · intro j u hu
          obtain ⟨hj, rfl⟩ := bytesV_some hu
          rw [hcell]
          exact h6 j hj
        · intro hroom j hj
          have hj0 : j = 0 := by simp [bytesV] at hj; omega
          subst hj0
          refine ⟨?_, free_at h4 _⟩
          rw [hcell]
          simp only [Nat.mul_one, Nat.add_zero]
          rw [Array.getElem?_eq_getElem (by omega)]
          rfl
        · intro hroom
          have e1 : w.setCells g (off + l.length * 1) (bytesV [v0]) = w.setCell ⟨g, off + l.length, none⟩ (.int .u8 (v0.toNat : Int)) := by rw [Nat.mul_one]; rfl
          rw [e1]
          refine h (some ⟨g, off, none⟩) c _ ⟨by simp; omega, h2, .inr ⟨g, off, cur.setIfInBounds (off + l.length) (.int .u8 (v0.toNat : Int)), rfl, heap_set h4, by simpa using h5, fun j hj => ?_⟩⟩ ((Keeps.refl _ w).setCell (p := ⟨g, off + l.length, none⟩) (fun _ => ⟨_, rfl, rfl⟩) _) (fun ad e => .inl ⟨_, rfl, by cases e; rfl⟩)
          by_cases ej : j = l.length
          · subst ej
            rw [Array.getElem?_setIfInBounds_self_of_lt (by omega)]
            simp
          · rw [Array.getElem?_setIfInBounds_ne (by omega)]
            have hj' : j < l.length := by simp at hj; omega
            rw [List.getElem_append_left hj']
            exact h6 j hj'
        · intro hgrow v' w' k1 k2
          have hform : ∃ A' c', v' = .slice A' (l.length + 1) c' := by
            rcases k1.2 with ⟨_, h0⟩ | ⟨g', cap', cur', e', _⟩
            · omega
            · exact ⟨_, _, e'⟩
          obtain ⟨A', c', rfl⟩ := hform
          rw [← bytesV_append] at k1
          refine h A' c' w' (WaitAt.of_own k1) ((Keeps.refl _ w).grown k2 (fun k e => by cases e)) (fun ad e => .inr ?_)
          rcases k1.2 with ⟨_, h0⟩ | ⟨g', cap', cur', e', hb', _⟩
          · omega
          · subst e
            cases e'
            exact hb'
end Go.Proofs.YtdhhaibefifdmaaGreatDoor
