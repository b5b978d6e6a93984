/- The list of what is done with a trie, opened. -/
import Derived.Test.YtmbgfjcmdolggaaDoorMD
set_option linter.unusedVariables false
set_option linter.unusedSimpArgs false
namespace Go.Proofs.YtmbgfjcmdolggaaDoor
open Go.RowKit Go.ChangeShapes Go.WideShapes Go.Deep

/-- Something that is done with a trie. -/
structure PAct where
  d : Bool
  n : UInt8
  p : List UInt8

def PActsAt (w : World) (A : Option Addr) (l : List PAct) : Prop :=
  (A = none → l = []) ∧ ∀ ad, A = some ad → ∀ j (h : j < l.length), ∃ B c, w.cell? (ad.add (j * 3)) = some (.bool l[j].d) ∧ w.cell? (ad.add (j * 3 + 1)) = some (.int .u8 (l[j].n.toNat : Int)) ∧ w.cell? (ad.add (j * 3 + 2)) = some (.slice B l[j].p.length c) ∧ BSA w B c l[j].p
theorem PActsAt.below {w w' : World} {A : Option Addr} {l : List PAct} (h : PActsAt w A l) (hb : Below w.heap.size w w') : PActsAt w' A l :=
  ⟨h.1, fun ad e j hj => by
    obtain ⟨B, c, h1, h2, h3, h4⟩ := h.2 ad e j hj
    exact ⟨B, c, below_cell hb h1, below_cell hb h2, below_cell hb h3, h4.below hb⟩⟩
/-- Element k, its place written out. -/
theorem PActsAt.at_ {w : World} {A : Option Addr} {l : List PAct} (h : PActsAt w A l) (k : Nat) (hk : k < l.length) : ∃ b o B c, A = some ⟨b, o, none⟩ ∧ w.cell? ⟨b, o + k * 3, none⟩ = some (.bool l[k].d) ∧ w.cell? ⟨b, o + k * 3 + 1, none⟩ = some (.int .u8 (l[k].n.toNat : Int)) ∧ w.cell? ⟨b, o + k * 3 + 2, none⟩ = some (.slice B l[k].p.length c) ∧ BSA w B c l[k].p := by
  cases A with
  | none => have := h.1 rfl; subst this; simp at hk
  | some ad =>
    obtain ⟨B, c, h1, h2, h3, h4⟩ := h.2 ad rfl k hk
    obtain ⟨b, o, sp⟩ := ad
    have hs : sp = none := by
      obtain ⟨_, _, g1, _⟩ := h.2 _ rfl 0 (by omega)
      simpa [Addr.add] using World.cell?_spot g1
    subst hs
    have hadd : ∀ i, (⟨b, o, none⟩ : Addr).add i = ⟨b, o + i, none⟩ := fun i => by unfold Addr.add; split <;> simp_all
    rw [hadd] at h1 h2 h3
    exact ⟨b, o, B, c, rfl, h1, by simpa [Nat.add_assoc] using h2, by simpa [Nat.add_assoc] using h3, h4⟩

section
variable {H : Type} {enc : TypeId × Value → H} {w : World} {base : Nat} {spare : Nat → Bool} {held : Bool}
instance : Inhabited PAct := ⟨⟨false, 0, []⟩⟩

set_option maxRecDepth 100000 in
theorem open_pacts {fuel : Nat} {a : Option Addr} {len cap : Nat} {x : DataW H × List MemPlace} (h : DataW.trod enc Tryd.prog w base spare held fuel 54 [.slice a len cap] = some x) : ∃ l : List PAct, l.length = len ∧ l.length ≤ cap ∧ cap ≤ maxLen ∧ PActsAt w a l := by
  have hce : Tryd.prog.cellsOf 84 = 3 := by kernel_rfl
  rcases open_slice Tryd.underlying54 h with ⟨hcs, _⟩ | ⟨ad, l, c, m, n, D, Pl, hcs, _, hl, hm, hmm, _, hel⟩
  · simp at hcs
    obtain ⟨rfl, rfl, rfl⟩ := hcs
    exact ⟨[], rfl, Nat.le_refl _, by unfold maxLen; omega, fun _ => rfl, fun ad e => by cases e⟩
  · simp at hcs
    obtain ⟨rfl, rfl, rfl⟩ := hcs
    have hlm : len ≤ m := by rw [hmm]; split <;> omega
    have key : ∀ i, i < len → ∃ x : PAct, ∃ B c, w.cell? (ad.add (i * 3)) = some (.bool x.d) ∧ w.cell? (ad.add (i * 3 + 1)) = some (.int .u8 (x.n.toNat : Int)) ∧ w.cell? (ad.add (i * 3 + 2)) = some (.slice B x.p.length c) ∧ BSA w B c x.p := by
      intro i hi
      obtain ⟨cs', hcells, hy⟩ := hel i (by omega)
      rw [hce] at hcells
      obtain ⟨_, hlen, hcell⟩ := World.cells?_some hcells
      obtain ⟨y0, y1, y2, n', _, _, t0, t1, t2⟩ := trod_struct3 Tryd.underlying84 hy
      match cs', hlen with
      | [u0, u1, u2], _ =>
        obtain ⟨k0, e0, _⟩ := DataW.trod_bool Tryd.underlying4 t0
        obtain ⟨k1, e1, _, w1⟩ := DataW.trod_int Tryd.underlying5 t1
        obtain ⟨lp, B, c, e2, hb⟩ := open_bytes' t2
        have hc4 : Tryd.prog.cellsOf 4 = 1 := by kernel_rfl
        have hc5 : Tryd.prog.cellsOf 5 = 1 := by kernel_rfl
        have hc26 : Tryd.prog.cellsOf 23 = 1 := by kernel_rfl
        simp [hc4, hc5, hc26] at e0 e1 e2
        subst e0 e1 e2
        have q0 := hcell 0 (by omega)
        have q1 := hcell 1 (by omega)
        have q2 := hcell 2 (by omega)
        simp only [add_add] at q0 q1 q2
        refine ⟨⟨k0, UInt8.ofNat k1.toNat, lp⟩, B, c, q0, ?_, q2, hb⟩
        show _ = some (Value.int .u8 ((UInt8.ofNat k1.toNat).toNat : Int))
        rw [u8_of_int w1]; exact q1
    obtain ⟨f, hf⟩ := choose_lt key
    refine ⟨(List.range len).map f, by simp, by simpa using hl, hm, (fun e => by cases e), fun ad' e j hj => ?_⟩
    cases e
    have hj' : j < len := by simpa using hj
    obtain ⟨B, c, h1⟩ := hf j hj'
    refine ⟨B, c, ?_⟩
    simpa using h1
end
end Go.Proofs.YtmbgfjcmdolggaaDoor
