/- A list of bytes that came in, opened. -/
import Derived.Test.YtmbgfjcmdolggaaDoorOpen
import Derived.Test.YtmbgfjcmdolggaaDoorConcat
set_option linter.unusedVariables false
set_option linter.unusedSimpArgs false
namespace Go.Proofs.YtmbgfjcmdolggaaDoor
open Go.RowKit Go.ChangeShapes Go.WideShapes Go.Deep

def PartsAt (w : World) (A : Option Addr) (ps : List Part) : Prop :=
  (A = none → ps = []) ∧ ∀ ad, A = some ad → ∀ j (h : j < ps.length), w.cell? (ad.add j) = some (partV ps[j]) ∧ BSA w ps[j].1 ps[j].2.1 ps[j].2.2
theorem PartsAt.below {w w' : World} {A : Option Addr} {ps : List Part} (h : PartsAt w A ps) (hb : Below w.heap.size w w') : PartsAt w' A ps :=
  ⟨h.1, fun ad e j hj => ⟨below_cell hb (h.2 ad e j hj).1, (h.2 ad e j hj).2.below hb⟩⟩
/-- Element k, its place written out. -/
theorem PartsAt.at_ {w : World} {A : Option Addr} {ps : List Part} (h : PartsAt w A ps) (k : Nat) (hk : k < ps.length) : ∃ b o, A = some ⟨b, o, none⟩ ∧ w.cell? ⟨b, o + k, none⟩ = some (partV ps[k]) ∧ BSA w ps[k].1 ps[k].2.1 ps[k].2.2 := by
  cases A with
  | none => have := h.1 rfl; subst this; simp at hk
  | some ad =>
    obtain ⟨h1, h2⟩ := h.2 ad rfl k hk
    obtain ⟨b, o, sp⟩ := ad
    have hs : sp = none := by
      have g1 := (h.2 _ rfl 0 (by omega)).1
      simpa [Addr.add] using World.cell?_spot g1
    subst hs
    have hadd : ∀ i, (⟨b, o, none⟩ : Addr).add i = ⟨b, o + i, none⟩ := fun i => by unfold Addr.add; split <;> simp_all
    rw [hadd] at h1
    exact ⟨b, o, rfl, h1, h2⟩

theorem pick_lt {α : Type} [Inhabited α] {n : Nat} {p : Nat → α → Prop} (h : ∀ i, i < n → ∃ x, p i x) : ∃ f : Nat → α, ∀ i, i < n → p i (f i) := by
  refine ⟨fun i => if hi : i < n then (h i hi).choose else default, fun i hi => ?_⟩
  simp only [hi, dif_pos]
  exact (h i hi).choose_spec
section
variable {H : Type} {enc : TypeId × Value → H} {w : World} {base : Nat} {spare : Nat → Bool} {held : Bool}
theorem open_parts {fuel : Nat} {a : Option Addr} {len cap : Nat} {x : DataW H × List MemPlace} (h : DataW.trod enc Tryd.prog w base spare held fuel 22 [.slice a len cap] = some x) : ∃ ps : List Part, ps.length = len ∧ ps.length ≤ cap ∧ cap ≤ maxLen ∧ PartsAt w a ps := by
  have hce : Tryd.prog.cellsOf 23 = 1 := by kernel_rfl
  rcases open_slice Tryd.underlying22 h with ⟨hcs, _⟩ | ⟨ad, l, c, m, n, D, Pl, hcs, _, hl, hm, hmm, _, hel⟩
  · simp at hcs
    obtain ⟨rfl, rfl, rfl⟩ := hcs
    exact ⟨[], rfl, Nat.le_refl _, by unfold maxLen; omega, fun _ => rfl, fun ad e => by cases e⟩
  · simp at hcs
    obtain ⟨rfl, rfl, rfl⟩ := hcs
    have hlm : len ≤ m := by rw [hmm]; split <;> omega
    have key : ∀ i, i < len → ∃ x : Part, w.cell? (ad.add i) = some (partV x) ∧ BSA w x.1 x.2.1 x.2.2 := by
      intro i hi
      obtain ⟨cs', hcells, hy⟩ := hel i (by omega)
      rw [hce, Nat.mul_one] at hcells
      obtain ⟨_, hlen, hcell⟩ := World.cells?_some hcells
      obtain ⟨lp, B, c', e2, hb⟩ := open_bytes' hy
      subst e2
      have q0 := hcell 0 (by simp)
      have e0 : (ad.add i).add 0 = ad.add i := by rw [add_add]; rfl
      rw [e0] at q0
      exact ⟨(B, c', lp), q0, hb⟩
    obtain ⟨f, hf⟩ := pick_lt key
    refine ⟨(List.range len).map f, by simp, by simpa using hl, hm, (fun e => by cases e), fun ad' e j hj => ?_⟩
    cases e
    have hj' : j < len := by simpa using hj
    simpa using hf j hj'
end
end Go.Proofs.YtmbgfjcmdolggaaDoor
