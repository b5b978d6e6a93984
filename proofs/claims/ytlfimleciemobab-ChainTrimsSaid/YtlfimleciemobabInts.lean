/- A list of 64-bit numbers that came in, opened. -/
import Derived.Test.YtlfimleciemobabOpen
set_option linter.unusedVariables false
set_option linter.unusedSimpArgs false
namespace Go.Proofs.Ytlfimleciemobab
open Go.RowKit Go.ChangeShapes Go.WideShapes Go.Deep

/-- A slice of numbers that reads as l. -/
def ISA (w : World) (A : Option Addr) (c : Nat) (l : List Int) : Prop :=
  l.length ≤ c ∧ c ≤ maxLen ∧ (A = none → c = 0) ∧ ∀ ad, A = some ad → ∀ j (h : j < l.length), w.cell? (ad.add j) = some (.int .i64 l[j])
theorem ISA.cell {w : World} {A : Option Addr} {c : Nat} {l : List Int} (h : ISA w A c l) (j : Nat) (hj : j < l.length) : ∃ ad, A = some ad ∧ w.cell? (ad.add j) = some (.int .i64 l[j]) := by
  obtain ⟨h1, _, h3, h4⟩ := h
  cases A with
  | none => have := h3 rfl; omega
  | some ad => exact ⟨ad, rfl, h4 ad rfl j hj⟩
theorem ISA.below {w w' : World} {A : Option Addr} {c : Nat} {l : List Int} (h : ISA w A c l) (hb : Below w.heap.size w w') : ISA w' A c l :=
  ⟨h.1, h.2.1, h.2.2.1, fun ad e j hj => below_cell hb (h.2.2.2 ad e j hj)⟩
theorem ISA.le {w : World} {A : Option Addr} {c : Nat} {l : List Int} (h : ISA w A c l) : l.length ≤ 9223372036854775807 := by have := h.1; have := h.2.1; unfold maxLen at *; omega

section
variable {H : Type} {enc : TypeId × Value → H} {w : World} {base : Nat} {spare : Nat → Bool} {held : Bool}
theorem open_int64s {fuel : Nat} {a : Option Addr} {len cap : Nat} {x : DataW H × List MemPlace} (h : DataW.trod enc Try.prog w base spare held fuel 49 [.slice a len cap] = some x) : ∃ l : List Int, l.length = len ∧ ISA w a cap l ∧ ∀ z ∈ l, -9223372036854775808 ≤ z ∧ z ≤ 9223372036854775807 := by
  rcases open_ints Try.underlying49 Try.underlying2 (by kernel_rfl) h with ⟨hcs, _⟩ | ⟨ad, l, c, zs, hcs, _, hl, hm, hz, _, hcell, hwz⟩
  · simp at hcs
    obtain ⟨rfl, rfl, rfl⟩ := hcs
    exact ⟨[], rfl, ⟨by simp, by unfold maxLen; omega, fun _ => rfl, fun _ e => by cases e⟩, by simp⟩
  · simp at hcs
    obtain ⟨rfl, rfl, rfl⟩ := hcs
    have hzl : len ≤ zs.length := by rw [hz]; split <;> omega
    have hlen : (zs.take len).length = len := by simp; omega
    refine ⟨zs.take len, hlen, ⟨by omega, hm, (fun e => by cases e), fun ad' e j hj => ?_⟩, fun z hz' => ?_⟩
    · cases e
      have hj' : j < len := by omega
      rw [hcell j (by omega), List.getElem_take]
      simp [List.getD, show j < zs.length by omega]
    · have := bounds_i64 (hwz z (List.mem_of_mem_take hz'))
      exact ⟨by simpa using this.1, by simpa using this.2⟩
end
end Go.Proofs.Ytlfimleciemobab
