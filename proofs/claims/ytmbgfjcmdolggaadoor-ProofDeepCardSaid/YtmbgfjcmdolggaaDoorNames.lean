/- The items under the law's keys: good, told apart. -/
import Derived.Test.YtmbgfjcmdolggaaDoorKeys
import Derived.Test.YtmbgfjcmdolggaaDoorRPBuild
set_option linter.unusedVariables false
set_option linter.unusedSimpArgs false
namespace Go.Proofs.YtmbgfjcmdolggaaDoor
open Go.RowKit PrintLast

def key2 (b : UInt8) : ByteArray := strB [107, b]
theorem key2_apart {a b : UInt8} (ha : a.toNat < 24) (hb : b.toNat < 24) (h : pathK (key2 a) = pathK (key2 b)) : a = b := by
  have e : ∀ c : UInt8, pathK (key2 c) = sum256 [107, UInt8.ofNat c.toNat] := fun c => by
    show sum256 (strB [107, c]).data.toList = _
    rw [strB_list, UInt8.ofNat_toNat]
  rw [e, e] at h
  have := keys_apart ha hb h
  exact UInt8.toNat_inj.1 this
structure Names (l : List Itm) : Prop where
  key : ∀ x ∈ l, ∃ b : UInt8, b.toNat < 24 ∧ x.key = key2 b
  once : l.Pairwise fun x y => x.key ≠ y.key
  row : ∀ x ∈ l, x.row.length ≤ 20
theorem Names.nil : Names [] := ⟨fun x hx => absurd hx (by simp), List.Pairwise.nil, fun x hx => absurd hx (by simp)⟩
theorem Names.good {l : List Itm} (h : Names l) : Good 256 l := by
  refine ⟨h.once.imp_of_mem (fun {x y} hx hy hne e => ?_), fun x hx y hy i hi => by omega⟩
  obtain ⟨a, ha, ea⟩ := h.key x hx
  obtain ⟨b, hb, eb⟩ := h.key y hy
  rw [ea, eb] at e hne
  exact hne (by rw [key2_apart ha hb e])
theorem Names.tells {l : List Itm} (h : Names l) {b : UInt8} (hb : b.toNat < 24) : Tells l (key2 b) := by
  intro y hy e
  obtain ⟨a, ha, ea⟩ := h.key y hy
  rw [ea] at e ⊢
  rw [key2_apart ha hb e]
theorem Names.del {l : List Itm} (h : Names l) (k : ByteArray) : Names (delI l k) := by
  have hs : (delI l k).Sublist l := List.filter_sublist
  exact ⟨fun x hx => h.key x (hs.subset hx), h.once.sublist hs, fun x hx => h.row x (hs.subset hx)⟩
theorem Names.put {l : List Itm} (h : Names l) {b : UInt8} {row : List UInt8} (hb : b.toNat < 24) (hr : row.length ≤ 20) : Names (putI l ⟨key2 b, row⟩) := by
  have hs : (l.filter fun y => decide (y.key ≠ key2 b)).Sublist l := List.filter_sublist
  refine ⟨fun x hx => ?_, ?_, fun x hx => ?_⟩
  · rcases List.mem_cons.1 hx with rfl | hx
    · exact ⟨b, hb, rfl⟩
    · exact h.key x (hs.subset hx)
  · refine List.pairwise_cons.2 ⟨fun y hy e => ?_, h.once.sublist hs⟩
    have := (List.mem_filter.1 hy).2
    simp at this
    exact this e.symm
  · rcases List.mem_cons.1 hx with rfl | hx
    · exact hr
    · exact h.row x (hs.subset hx)
theorem key2_size (b : UInt8) : (key2 b).size = 2 := rfl
/-- The tree and the items of what was done. -/
def PairOf (w : World) (v : Value) (A : Option Addr) (c n : Nat) (k : Nat) (li : List Itm) (L : List RI) : Prop :=
  L.length = n ∧ n ≤ c ∧ n ≤ k ∧ Tree w v (treeF 256 li) ∧ Ready w A L ∧ (mapI L).Perm li ∧ Names li
theorem PairOf.below {w w' : World} {v : Value} {A : Option Addr} {c n k : Nat} {li : List Itm} {L : List RI} (h : PairOf w v A c n k li L) (hb : Below w.heap.size w w') : PairOf w' v A c n k li L :=
  ⟨h.1, h.2.1, h.2.2.1, Tree.below h.2.2.2.1 hb, h.2.2.2.2.1.below hb, h.2.2.2.2.2⟩
theorem PairOf.len {w : World} {v : Value} {A : Option Addr} {c n k : Nat} {li : List Itm} {L : List RI} (h : PairOf w v A c n k li L) : li.length = n := by
  rw [← h.2.2.2.2.2.1.length_eq, mapI_length]; exact h.1
theorem names_ready {L : List RI} {li : List Itm} (hp : (mapI L).Perm li) (hn : Names li) : KeysOk L ∧ RowsOk L := by
  have hm : ∀ x ∈ L, x.itm ∈ li := fun x hx => hp.mem_iff.1 (List.mem_map.2 ⟨x, hx, rfl⟩)
  refine ⟨fun x hx => ?_, fun x hx => ?_⟩
  · obtain ⟨b, _, e⟩ := hn.key _ (hm x hx)
    rw [show x.key = key2 b from e, key2_size]
    omega
  · have := hn.row _ (hm x hx)
    exact Nat.le_trans this (by omega)
theorem made_start (w : World) : PairOf w (.pointer none) none 0 0 0 [] [] :=
  ⟨rfl, Nat.le_refl _, Nat.le_refl _, by rw [treeF_nil]; exact Tree.nil w, ⟨ItAt.nil w, fun x hx => absurd hx (by simp), fun x hx => absurd hx (by simp), fun g o e => by cases e⟩, List.Perm.refl _, Names.nil⟩
/-- The two Builds give the same. -/
theorem PairOf.same {w : World} {v : Value} {A : Option Addr} {c n k : Nat} {li : List Itm} {L : List RI} (h : PairOf w v A c n k li L) : treeF 256 (mapI L) = treeF 256 li :=
  treeF_perm 256 (h.2.2.2.2.2.2.good.perm h.2.2.2.2.2.1.symm) (Nat.le_refl _) h.2.2.2.2.2.1
end Go.Proofs.YtmbgfjcmdolggaaDoor
