/- A loop that writes one byte all over a row of the call's own: what a round leaves. -/
import Derived.Test.YtlfimleciemobabBase
set_option linter.unusedVariables false
set_option linter.unusedSimpArgs false
namespace Go.Proofs.Ytlfimleciemobab
open Go.RowKit

/-- v is a row of n bytes, whatever they are. -/
def RowOf (w : World) (e : TypeId) (v : Value) (n : Nat) : Prop := ∃ ys : List UInt8, ys.length = n ∧ w.ownsRow 0 e 1 v n (bytesV ys)

theorem RowOf.form {w : World} {e : TypeId} {A : Option Addr} {n m c k : Nat} (h : RowOf w e (.slice A m c) n) (hk : k < n) : ∃ g cur, A = some ⟨g, 0, none⟩ ∧ m = n ∧ w.heap[g]? = some (.cells cur e (0, 0)) ∧ n ≤ cur.size := by
  obtain ⟨ys, rfl, ho⟩ := h
  rcases ho.2 with ⟨_, h0⟩ | ⟨g, cap, cur, e1, _, hh, hn, _, hc, _⟩
  · omega
  · cases e1
    exact ⟨g, cur, rfl, rfl, hh, by omega⟩

theorem RowOf.set {w : World} {e : TypeId} {g n c : Nat} (h : RowOf w e (.slice (some ⟨g, 0, none⟩) n c) n) {k : Nat} (b : UInt8) : RowOf (w.setCell ⟨g, k, none⟩ (.int .u8 (b.toNat : Int))) e (.slice (some ⟨g, 0, none⟩) n c) n := by
  obtain ⟨ys, hl, ho⟩ := h
  refine ⟨ys.set k b, by simpa using hl, ?_⟩
  have := (ho.stored k (.int .u8 (b.toNat : Int))).1
  have e1 : (bytesV ys).set k (.int .u8 (b.toNat : Int)) = bytesV (ys.set k b) := by
    unfold bytesV
    rw [List.map_set]
  rw [← e1]
  exact this

theorem RowOf.keeps {S : Nat → Prop} {w w' : World} {e : TypeId} {v : Value} {n : Nat} (h : RowOf w e v n) (hk : Keeps S w w') (hn : ∀ k, v.ownBlock = some k → ¬ S k) : RowOf w' e v n := by
  obtain ⟨ys, hl, ho⟩ := h
  exact ⟨ys, hl, hk.own ho hn⟩
theorem Keeps.cellOf (w : World) (g k : Nat) (u : Value) : Keeps (fun j => j = g) w (w.setCell ⟨g, k, none⟩ u) := (Keeps.refl (fun j => j = g) w).setCell (p := ⟨g, k, none⟩) (fun _ => rfl) u
end Go.Proofs.Ytlfimleciemobab
