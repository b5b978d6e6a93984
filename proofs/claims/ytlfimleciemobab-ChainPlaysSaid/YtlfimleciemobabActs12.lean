/- The list of what is done with a chain, opened. -/
import Derived.Test.YtlfimleciemobabOpen
set_option linter.unusedVariables false
set_option linter.unusedSimpArgs false
namespace Go.Proofs.Ytlfimleciemobab
open Go.RowKit Go.ChangeShapes Go.WideShapes Go.Deep

/-- Something that is done with a chain. -/
structure DAct where
  d : UInt8
  n : Int
  p : List UInt8

def ActsAt (w : World) (A : Option Addr) (l : List DAct) : Prop :=
  (A = none → l = []) ∧ ∀ ad, A = some ad → ∀ j (h : j < l.length), ∃ B c, w.cell? (ad.add (j * 3)) = some (.int .u8 (l[j].d.toNat : Int)) ∧ w.cell? (ad.add (j * 3 + 1)) = some (.int .i64 l[j].n) ∧ w.cell? (ad.add (j * 3 + 2)) = some (.slice B l[j].p.length c) ∧ BSA w B c l[j].p ∧
    -9223372036854775808 ≤ l[j].n ∧ l[j].n ≤ 9223372036854775807

theorem ActsAt.below {w w' : World} {A : Option Addr} {l : List DAct} (h : ActsAt w A l) (hb : Below w.heap.size w w') : ActsAt w' A l :=
  ⟨h.1, fun ad e j hj => by
    obtain ⟨B, c, h1, h2, h3, h4, h5⟩ := h.2 ad e j hj
    exact ⟨B, c, below_cell hb h1, below_cell hb h2, below_cell hb h3, h4.below hb, h5⟩⟩

/-- Element k, its place written out. -/
theorem ActsAt.at_ {w : World} {A : Option Addr} {l : List DAct} (h : ActsAt w A l) (k : Nat) (hk : k < l.length) : ∃ b o B c, A = some ⟨b, o, none⟩ ∧ w.cell? ⟨b, o + k * 3, none⟩ = some (.int .u8 (l[k].d.toNat : Int)) ∧ w.cell? ⟨b, o + k * 3 + 1, none⟩ = some (.int .i64 l[k].n) ∧ w.cell? ⟨b, o + k * 3 + 2, none⟩ = some (.slice B l[k].p.length c) ∧ BSA w B c l[k].p ∧
    -9223372036854775808 ≤ l[k].n ∧ l[k].n ≤ 9223372036854775807 := by
  cases A with
  | none => have := h.1 rfl; subst this; simp at hk
  | some ad =>
    obtain ⟨B, c, h1, h2, h3, h4⟩ := h.2 ad rfl k hk
    obtain ⟨b, o, sp⟩ := ad
    have hs : sp = none := by
      obtain ⟨_, _, g1, _⟩ := h.2 _ rfl 0 (by omega)
      simpa [Addr.add] using World.cell?_spot g1
    subst hs
    have hadd : ∀ i, (⟨b, o, none⟩ : Addr).add i = ⟨b, o + i, none⟩ := fun i => by unfold Addr.add; split <;> simp_all
    rw [hadd] at h1 h2 h3
    exact ⟨b, o, B, c, rfl, h1, by simpa [Nat.add_assoc] using h2, by simpa [Nat.add_assoc] using h3, h4⟩

section
variable {H : Type} {enc : TypeId × Value → H} {w : World} {base : Nat} {spare : Nat → Bool} {held : Bool}
instance : Inhabited DAct := ⟨⟨0, 0, []⟩⟩

theorem open_acts {fuel : Nat} {a : Option Addr} {len cap : Nat} {x : DataW H × List MemPlace} (h : DataW.trod enc Try.prog w base spare held fuel 35 [.slice a len cap] = some x) : ∃ l : List DAct, l.length = len ∧ l.length ≤ cap ∧ cap ≤ maxLen ∧ ActsAt w a l := by
  have hce : Try.prog.cellsOf 40 = 3 := by kernel_rfl
  rcases open_slice Try.underlying35 h with ⟨hcs, _⟩ | ⟨ad, l, c, m, n, D, Pl, hcs, _, hl, hm, hmm, _, hel⟩
  · simp at hcs
    obtain ⟨rfl, rfl, rfl⟩ := hcs
    exact ⟨[], rfl, Nat.le_refl _, by unfold maxLen; omega, fun _ => rfl, fun ad e => by cases e⟩
  · simp at hcs
    obtain ⟨rfl, rfl, rfl⟩ := hcs
    have hlm : len ≤ m := by rw [hmm]; split <;> omega
    have key : ∀ i, i < len → ∃ x : DAct, ∃ B c, w.cell? (ad.add (i * 3)) = some (.int .u8 (x.d.toNat : Int)) ∧ w.cell? (ad.add (i * 3 + 1)) = some (.int .i64 x.n) ∧ w.cell? (ad.add (i * 3 + 2)) = some (.slice B x.p.length c) ∧ BSA w B c x.p ∧
        -9223372036854775808 ≤ x.n ∧ x.n ≤ 9223372036854775807 := by
      intro i hi
      obtain ⟨cs', hcells, hy⟩ := hel i (by omega)
      rw [hce] at hcells
      obtain ⟨_, hlen, hcell⟩ := World.cells?_some hcells
      obtain ⟨y0, y1, y2, n', _, _, t0, t1, t2⟩ := trod_struct3 Try.underlying40 hy
      match cs', hlen with
      | [u0, u1, u2], _ =>
        obtain ⟨k0, e0, _, w0⟩ := DataW.trod_int Try.underlying5 t0
        obtain ⟨k1, e1, _, w1⟩ := DataW.trod_int Try.underlying2 t1
        obtain ⟨lp, B, c, e2, hb⟩ := open_bytes' t2
        have hc5 : Try.prog.cellsOf 5 = 1 := by kernel_rfl
        have hc3 : Try.prog.cellsOf 2 = 1 := by kernel_rfl
        have hc26 : Try.prog.cellsOf 22 = 1 := by kernel_rfl
        simp [hc5, hc3, hc26] at e0 e1 e2
        subst e0 e1 e2
        have q0 := hcell 0 (by omega)
        have q1 := hcell 1 (by omega)
        have q2 := hcell 2 (by omega)
        simp only [add_add] at q0 q1 q2
        refine ⟨⟨UInt8.ofNat k0.toNat, k1, lp⟩, B, c, ?_, q1, q2, hb, ?_⟩
        · show _ = some (Value.int .u8 ((UInt8.ofNat k0.toNat).toNat : Int))
          rw [u8_of_int w0]; exact q0
        · have := bounds_i64 w1
          exact ⟨by simpa using this.1, by simpa using this.2⟩
    obtain ⟨f, hf⟩ := choose_lt key
    refine ⟨(List.range len).map f, by simp, by simpa using hl, hm, (fun e => by cases e), fun ad' e j hj => ?_⟩
    cases e
    have hj' : j < len := by simpa using hj
    obtain ⟨B, c, h1⟩ := hf j hj'
    refine ⟨B, c, ?_⟩
    simpa using h1
end
end Go.Proofs.Ytlfimleciemobab
