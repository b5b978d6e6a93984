/- The plain law of the tree: items, halves, digests; what is put and what is gone. No program in sight. -/
import Derived.Test.YtdhhaibefifdmaaGreatDoorBit
import Derived.Test.YtdhhaibefifdmaaGreatDoorMarkB
set_option linter.unusedVariables false
set_option linter.unusedSimpArgs false
namespace Go.Proofs.YtdhhaibefifdmaaGreatDoor
open Go.RowKit PrintLast

/-- A key and its row. -/
structure Itm where
  key : ByteArray
  row : List UInt8
def pathK (k : ByteArray) : List UInt8 := sum256 k.data.toList
def btK (k : ByteArray) (d : Nat) : Int := bitOf (pathK k) (d : Int)
theorem bitOf_two (l : List UInt8) (i : Int) : bitOf l i = 0 ∨ bitOf l i = 1 := by
  unfold bitOf
  split
  · exact .inl rfl
  · split
    · omega
    · exact .inl rfl
theorem btK_two (k : ByteArray) (d : Nat) : btK k d = 0 ∨ btK k d = 1 := bitOf_two _ _
def halfI (l : List Itm) (d : Nat) (b : Int) : List Itm := l.filter fun x => btK x.key d == b

inductive Tr where
  | nil : Tr
  | leaf : Itm → Tr
  | node : Tr → Tr → Tr
def Tr.count : Tr → Nat
  | .nil => 0
  | .leaf _ => 1
  | .node l r => l.count + r.count
def Tr.ht : Tr → Nat
  | .nil => 0
  | .leaf _ => 0
  | .node l r => max l.ht r.ht + 1
def leafD (x : Itm) : List UInt8 := leafB x.key.data.toList x.row
def Tr.dig : Tr → List UInt8
  | .nil => sum256 [0]
  | .leaf x => sum256 (leafD x)
  | .node l r => sum256 (nodeB l.dig r.dig)
/-- No node without a leaf. -/
def Tr.Wf : Tr → Prop
  | .nil => True
  | .leaf _ => True
  | .node l r => 0 < l.count + r.count ∧ l.Wf ∧ r.Wf

/-- The tree of items, at the depth 256 - f. -/
def treeF : Nat → List Itm → Tr
  | _, [] => .nil
  | _, [x] => .leaf x
  | 0, x :: _ :: _ => .leaf x
  | f + 1, x :: y :: l => .node (treeF f (halfI (x :: y :: l) (255 - f) 0)) (treeF f (halfI (x :: y :: l) (255 - f) 1))
theorem treeF_nil (f : Nat) : treeF f [] = .nil := by cases f <;> rfl
theorem treeF_one (f : Nat) (x : Itm) : treeF f [x] = .leaf x := by cases f <;> rfl
theorem treeF_big (f : Nat) (l : List Itm) (h : 2 ≤ l.length) : treeF (f + 1) l = .node (treeF f (halfI l (255 - f) 0)) (treeF f (halfI l (255 - f) 1)) := by
  match l, h with
  | x :: y :: l, _ => rfl

/-! ### halves -/
theorem half_length (l : List Itm) (d : Nat) : (halfI l d 0).length + (halfI l d 1).length = l.length := by
  induction l with
  | nil => rfl
  | cons x l ih =>
    unfold halfI at ih ⊢
    rcases btK_two x.key d with h | h
    · simp [List.filter_cons, h]; omega
    · simp [List.filter_cons, h]; omega
theorem half_mem {l : List Itm} {d : Nat} {b : Int} {x : Itm} : x ∈ halfI l d b ↔ x ∈ l ∧ btK x.key d = b := by
  unfold halfI; rw [List.mem_filter]; simp

/-- Items that stand under one another: keys once, sums once, alike in the bits ahead of the depth 256 - f. -/
structure Good (f : Nat) (l : List Itm) : Prop where
  once : l.Pairwise fun x y => pathK x.key ≠ pathK y.key
  alike : ∀ x ∈ l, ∀ y ∈ l, ∀ i, i < 256 - f → btK x.key i = btK y.key i

theorem pow_bits (x y : Nat) (hx : x < 256) (hy : y < 256) (h : ∀ j, j < 8 → x / 2 ^ j % 2 = y / 2 ^ j % 2) : x = y := by
  apply Nat.eq_of_testBit_eq
  intro j
  rw [Nat.testBit_eq_decide_div_mod_eq, Nat.testBit_eq_decide_div_mod_eq]
  by_cases hj : j < 8
  · rw [h j hj]
  · have h1 : 2 ^ 8 ≤ 2 ^ j := Nat.pow_le_pow_right (by omega) (by omega)
    rw [Nat.div_eq_of_lt (by omega), Nat.div_eq_of_lt (by omega)]
theorem bits_eq {p q : List UInt8} (hp : p.length = 32) (hq : q.length = 32) (h : ∀ i : Nat, i < 256 → bitOf p i = bitOf q i) : p = q := by
  apply List.ext_getElem (by omega)
  intro k h1 h2
  apply UInt8.toNat_inj.1
  refine pow_bits _ _ p[k].toNat_lt q[k].toNat_lt (fun j hj => ?_)
  have := h (8 * k + (7 - j)) (by omega)
  unfold bitOf at this
  have e1 : ((8 * k + (7 - j) : Nat) : Int).toNat / 8 = k := by omega
  have e2 : ((8 * k + (7 - j) : Nat) : Int).toNat % 8 = 7 - j := by omega
  rw [if_neg (by omega), if_neg (by omega)] at this
  simp only [e1, e2] at this
  rw [dif_pos h1, dif_pos h2, show 7 - (7 - j) = j by omega] at this
  exact Int.ofNat.inj this
theorem path_length (k : ByteArray) : (pathK k).length = 32 := sum256_length _
theorem Good.few {l : List Itm} (h : Good 0 l) : l.length ≤ 1 := by
  match l, h with
  | [], _ => simp
  | [x], _ => simp
  | x :: y :: l, h =>
    exfalso
    have h1 := (List.pairwise_cons.1 h.once).1 y (by simp)
    refine h1 (bits_eq (path_length _) (path_length _) (fun i hi => h.alike x (by simp) y (by simp) i (by omega)))
theorem Good.half {f : Nat} {l : List Itm} (h : Good (f + 1) l) (b : Int) (hf : f < 256) : Good f (halfI l (255 - f) b) := by
  refine ⟨h.once.filter _, fun x hx y hy i hi => ?_⟩
  obtain ⟨x1, x2⟩ := half_mem.1 hx
  obtain ⟨y1, y2⟩ := half_mem.1 hy
  by_cases hi' : i < 256 - (f + 1)
  · exact h.alike x x1 y y1 i hi'
  · obtain rfl : i = 255 - f := by omega
    rw [x2, y2]
theorem Good.sub {f : Nat} {l l' : List Itm} (h : Good f l) (hs : l'.Sublist l) : Good f l' :=
  ⟨h.once.sublist hs, fun x hx y hy => h.alike x (hs.subset hx) y (hs.subset hy)⟩
theorem Good.perm {f : Nat} {l l' : List Itm} (h : Good f l) (hp : l.Perm l') : Good f l' :=
  ⟨(hp.pairwise_iff (fun {a b} (e : pathK a.key ≠ pathK b.key) => Ne.symm e)).1 h.once, fun x hx y hy => h.alike x (hp.mem_iff.2 hx) y (hp.mem_iff.2 hy)⟩
theorem half_perm {l l' : List Itm} (h : l.Perm l') (d : Nat) (b : Int) : (halfI l d b).Perm (halfI l' d b) := h.filter _

theorem treeF_perm (f : Nat) : ∀ {l l' : List Itm}, Good f l → f ≤ 256 → l.Perm l' → treeF f l = treeF f l' := by
  induction f with
  | zero =>
    intro l l' hg _ hp
    have h1 := hg.few
    match l, h1, hp with
    | [], _, hp => rw [List.Perm.nil_eq hp.symm.symm]
    | [x], _, hp => rw [(List.singleton_perm.1 hp)]
  | succ f ih =>
    intro l l' hg hf hp
    have hl := hp.length_eq
    by_cases h2 : 2 ≤ l.length
    · rw [treeF_big f l h2, treeF_big f l' (by omega), ih (hg.half 0 (by omega)) (by omega) (half_perm hp _ _), ih (hg.half 1 (by omega)) (by omega) (half_perm hp _ _)]
    · match l, h2, hp with
      | [], _, hp => rw [List.Perm.nil_eq hp.symm.symm]
      | [x], _, hp => rw [(List.singleton_perm.1 hp)]
      | x :: y :: l, h2, _ => simp at h2

/-! ### joins -/
def joinT : Tr → Tr → Tr
  | .nil, .nil => .nil
  | .nil, .leaf x => .leaf x
  | .leaf x, .nil => .leaf x
  | l, r => .node l r
theorem treeF_node_of {f : Nat} {l : List Itm} (hg : Good f l) (h : 2 ≤ l.length) : ∃ a b, treeF f l = .node a b := by
  cases f with
  | zero => have := hg.few; omega
  | succ f => exact ⟨_, _, treeF_big f l h⟩
theorem join_tree {f : Nat} {l : List Itm} (hg : Good (f + 1) l) (hf : f < 256) : joinT (treeF f (halfI l (255 - f) 0)) (treeF f (halfI l (255 - f) 1)) = treeF (f + 1) l := by
  have hlen := half_length l (255 - f)
  have g0 := hg.half 0 hf
  have g1 := hg.half 1 hf
  by_cases h2 : 2 ≤ l.length
  · rw [treeF_big f l h2]
    generalize halfI l (255 - f) 0 = A at *
    generalize halfI l (255 - f) 1 = B at *
    by_cases hA : 2 ≤ A.length
    · obtain ⟨a, b, e⟩ := treeF_node_of g0 hA
      rw [e]; rfl
    · by_cases hB : 2 ≤ B.length
      · obtain ⟨a, b, e⟩ := treeF_node_of g1 hB
        rw [e]
        cases treeF f A <;> rfl
      · match A, B, hA, hB, hlen with
        | [x], [y], _, _, _ => rw [treeF_one, treeF_one]; rfl
        | [], [], _, _, h => simp at h; omega
        | [], [y], _, _, h => simp at h; omega
        | [x], [], _, _, h => simp at h; omega
        | _ :: _ :: _, _, h, _, _ => simp at h
        | _, _ :: _ :: _, _, h, _ => simp at h
  · match l, h2 with
    | [], _ => simp [halfI, treeF_nil, joinT]
    | [x], _ =>
      rw [treeF_one]
      unfold halfI
      rcases btK_two x.key (255 - f) with h | h
      · simp [List.filter_cons, h, treeF_nil, treeF_one, joinT]
      · simp [List.filter_cons, h, treeF_nil, treeF_one, joinT]
    | x :: y :: l, h2 => simp at h2
end Go.Proofs.YtdhhaibefifdmaaGreatDoor
