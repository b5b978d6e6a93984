import Derived.Test.YtmbgfjcmdolggaaDoorMA
import Derived.Test.YtmbgfjcmdolggaaDoorMD
import Derived.Test.YtmbgfjcmdolggaaDoorMF
import Derived.IntWalk
set_option linter.unusedVariables false
set_option linter.unusedSimpArgs false
/- The plain law of the tree: items, halves, digests; what is put and what is gone. No program in sight. -/
namespace Go.Proofs.YtmbgfjcmdolggaaDoor
open Go.RowKit PrintLast

/-- A key and its row. -/
structure Itm where
  key : ByteArray
  row : List UInt8
def pathK (k : ByteArray) : List UInt8 := sum256 k.data.toList
def btK (k : ByteArray) (d : Nat) : Int := bitOf (pathK k) (d : Int)
theorem bitOf_two (l : List UInt8) (i : Int) : bitOf l i = 0 ∨ bitOf l i = 1 := by
  unfold bitOf
  split
  · exact .inl rfl
  · split
    · omega
    · exact .inl rfl
theorem btK_two (k : ByteArray) (d : Nat) : btK k d = 0 ∨ btK k d = 1 := bitOf_two _ _
def halfI (l : List Itm) (d : Nat) (b : Int) : List Itm := l.filter fun x => btK x.key d == b

inductive Tr where
  | nil : Tr
  | leaf : Itm → Tr
  | node : Tr → Tr → Tr
def Tr.count : Tr → Nat
  | .nil => 0
  | .leaf _ => 1
  | .node l r => l.count + r.count
def Tr.ht : Tr → Nat
  | .nil => 0
  | .leaf _ => 0
  | .node l r => max l.ht r.ht + 1
def leafD (x : Itm) : List UInt8 := leafB x.key.data.toList x.row
def Tr.dig : Tr → List UInt8
  | .nil => sum256 [0]
  | .leaf x => sum256 (leafD x)
  | .node l r => sum256 (nodeB l.dig r.dig)
/-- No node without a leaf. -/
def Tr.Wf : Tr → Prop
  | .nil => True
  | .leaf _ => True
  | .node l r => 0 < l.count + r.count ∧ l.Wf ∧ r.Wf

/-- The tree of items, at the depth 256 - f. -/
def treeF : Nat → List Itm → Tr
  | _, [] => .nil
  | _, [x] => .leaf x
  | 0, x :: _ :: _ => .leaf x
  | f + 1, x :: y :: l => .node (treeF f (halfI (x :: y :: l) (255 - f) 0)) (treeF f (halfI (x :: y :: l) (255 - f) 1))
theorem treeF_nil (f : Nat) : treeF f [] = .nil := by cases f <;> rfl
theorem treeF_one (f : Nat) (x : Itm) : treeF f [x] = .leaf x := by cases f <;> rfl
theorem treeF_big (f : Nat) (l : List Itm) (h : 2 ≤ l.length) : treeF (f + 1) l = .node (treeF f (halfI l (255 - f) 0)) (treeF f (halfI l (255 - f) 1)) := by
  match l, h with
  | x :: y :: l, _ => rfl

/-! ### halves -/
theorem half_length (l : List Itm) (d : Nat) : (halfI l d 0).length + (halfI l d 1).length = l.length := by
  induction l with
  | nil => rfl
  | cons x l ih =>
    unfold halfI at ih ⊢
    rcases btK_two x.key d with h | h
    · simp [List.filter_cons, h]; omega
    · simp [List.filter_cons, h]; omega
theorem half_mem {l : List Itm} {d : Nat} {b : Int} {x : Itm} : x ∈ halfI l d b ↔ x ∈ l ∧ btK x.key d = b := by
  unfold halfI; rw [List.mem_filter]; simp

/-- Items that stand under one another: keys once, sums once, alike in the bits ahead of the depth 256 - f. -/
structure Good (f : Nat) (l : List Itm) : Prop where
  once : l.Pairwise fun x y => pathK x.key ≠ pathK y.key
  alike : ∀ x ∈ l, ∀ y ∈ l, ∀ i, i < 256 - f → btK x.key i = btK y.key i

theorem pow_bits (x y : Nat) (hx : x < 256) (hy : y < 256) (h : ∀ j, j < 8 → x / 2 ^ j % 2 = y / 2 ^ j % 2) : x = y := by
  apply Nat.eq_of_testBit_eq
  intro j
  rw [Nat.testBit_eq_decide_div_mod_eq, Nat.testBit_eq_decide_div_mod_eq]
  by_cases hj : j < 8
  · rw [h j hj]
  · have h1 : 2 ^ 8 ≤ 2 ^ j := Nat.pow_le_pow_right (by omega) (by omega)
    rw [Nat.div_eq_of_lt (by omega), Nat.div_eq_of_lt (by omega)]
theorem bits_eq {p q : List UInt8} (hp : p.length = 32) (hq : q.length = 32) (h : ∀ i : Nat, i < 256 → bitOf p i = bitOf q i) : p = q := by
  apply List.ext_getElem (by omega)
  intro k h1 h2
  apply UInt8.toNat_inj.1
  refine pow_bits _ _ p[k].toNat_lt q[k].toNat_lt (fun j hj => ?_)
  have := h (8 * k + (7 - j)) (by omega)
  unfold bitOf at this
  have e1 : ((8 * k + (7 - j) : Nat) : Int).toNat / 8 = k := by omega
  have e2 : ((8 * k + (7 - j) : Nat) : Int).toNat % 8 = 7 - j := by omega
  rw [if_neg (by omega), if_neg (by omega)] at this
  simp only [e1, e2] at this
  rw [dif_pos h1, dif_pos h2, show 7 - (7 - j) = j by omega] at this
  exact Int.ofNat.inj this
theorem path_length (k : ByteArray) : (pathK k).length = 32 := sum256_length _
theorem Good.few {l : List Itm} (h : Good 0 l) : l.length ≤ 1 := by
  match l, h with
  | [], _ => simp
  | [x], _ => simp
  | x :: y :: l, h =>
    exfalso
    have h1 := (List.pairwise_cons.1 h.once).1 y (by simp)
    refine h1 (bits_eq (path_length _) (path_length _) (fun i hi => h.alike x (by simp) y (by simp) i (by omega)))
theorem Good.half {f : Nat} {l : List Itm} (h : Good (f + 1) l) (b : Int) (hf : f < 256) : Good f (halfI l (255 - f) b) := by
  refine ⟨h.once.filter _, fun x hx y hy i hi => ?_⟩
  obtain ⟨x1, x2⟩ := half_mem.1 hx
  obtain ⟨y1, y2⟩ := half_mem.1 hy
  by_cases hi' : i < 256 - (f + 1)
  · exact h.alike x x1 y y1 i hi'
  · obtain rfl : i = 255 - f := by omega
    rw [x2, y2]
theorem Good.sub {f : Nat} {l l' : List Itm} (h : Good f l) (hs : l'.Sublist l) : Good f l' :=
  ⟨h.once.sublist hs, fun x hx y hy => h.alike x (hs.subset hx) y (hs.subset hy)⟩
theorem Good.perm {f : Nat} {l l' : List Itm} (h : Good f l) (hp : l.Perm l') : Good f l' :=
  ⟨(hp.pairwise_iff (fun {a b} (e : pathK a.key ≠ pathK b.key) => Ne.symm e)).1 h.once, fun x hx y hy => h.alike x (hp.mem_iff.2 hx) y (hp.mem_iff.2 hy)⟩
theorem half_perm {l l' : List Itm} (h : l.Perm l') (d : Nat) (b : Int) : (halfI l d b).Perm (halfI l' d b) := h.filter _

theorem treeF_perm (f : Nat) : ∀ {l l' : List Itm}, Good f l → f ≤ 256 → l.Perm l' → treeF f l = treeF f l' := by
  induction f with
  | zero =>
    intro l l' hg _ hp
    have h1 := hg.few
    match l, h1, hp with
    | [], _, hp => rw [List.Perm.nil_eq hp.symm.symm]
    | [x], _, hp => rw [(List.singleton_perm.1 hp)]
  | succ f ih =>
    intro l l' hg hf hp
    have hl := hp.length_eq
    by_cases h2 : 2 ≤ l.length
    · rw [treeF_big f l h2, treeF_big f l' (by omega), ih (hg.half 0 (by omega)) (by omega) (half_perm hp _ _), ih (hg.half 1 (by omega)) (by omega) (half_perm hp _ _)]
    · match l, h2, hp with
      | [], _, hp => rw [List.Perm.nil_eq hp.symm.symm]
      | [x], _, hp => rw [(List.singleton_perm.1 hp)]
      | x :: y :: l, h2, _ => simp at h2

/-! ### joins -/
def joinT : Tr → Tr → Tr
  | .nil, .nil => .nil
  | .nil, .leaf x => .leaf x
  | .leaf x, .nil => .leaf x
  | l, r => .node l r
theorem treeF_node_of {f : Nat} {l : List Itm} (hg : Good f l) (h : 2 ≤ l.length) : ∃ a b, treeF f l = .node a b := by
  cases f with
  | zero => have := hg.few; omega
  | succ f => exact ⟨_, _, treeF_big f l h⟩
theorem join_tree {f : Nat} {l : List Itm} (hg : Good (f + 1) l) (hf : f < 256) : joinT (treeF f (halfI l (255 - f) 0)) (treeF f (halfI l (255 - f) 1)) = treeF (f + 1) l := by
  have hlen := half_length l (255 - f)
  have g0 := hg.half 0 hf
  have g1 := hg.half 1 hf
  by_cases h2 : 2 ≤ l.length
  · rw [treeF_big f l h2]
    generalize halfI l (255 - f) 0 = A at *
    generalize halfI l (255 - f) 1 = B at *
    by_cases hA : 2 ≤ A.length
    · obtain ⟨a, b, e⟩ := treeF_node_of g0 hA
      rw [e]; rfl
    · by_cases hB : 2 ≤ B.length
      · obtain ⟨a, b, e⟩ := treeF_node_of g1 hB
        rw [e]
        cases treeF f A <;> rfl
      · match A, B, hA, hB, hlen with
        | [x], [y], _, _, _ => rw [treeF_one, treeF_one]; rfl
        | [], [], _, _, h => simp at h; omega
        | [], [y], _, _, h => simp at h; omega
        | [x], [], _, _, h => simp at h; omega
        | _ :: _ :: _, _, h, _, _ => simp at h
        | _, _ :: _ :: _, _, h, _ => simp at h
  · match l, h2 with
    | [], _ => simp [halfI, treeF_nil, joinT]
    | [x], _ =>
      rw [treeF_one]
      unfold halfI
      rcases btK_two x.key (255 - f) with h | h
      · simp [List.filter_cons, h, treeF_nil, treeF_one, joinT]
      · simp [List.filter_cons, h, treeF_nil, treeF_one, joinT]
    | x :: y :: l, h2 => simp at h2
end Go.Proofs.YtmbgfjcmdolggaaDoor

/- The plain law of the tree, further: what is put, what is gone, the way to a key. -/
namespace Go.Proofs.YtmbgfjcmdolggaaDoor
open Go.RowKit PrintLast

def apartT : Nat → Itm → Itm → Tr
  | 0, _, _ => .nil
  | f + 1, a, b =>
    if btK a.key (255 - f) = btK b.key (255 - f) then (if btK a.key (255 - f) = 0 then joinT (apartT f a b) .nil else joinT .nil (apartT f a b))
    else if btK a.key (255 - f) = 0 then joinT (.leaf a) (.leaf b) else joinT (.leaf b) (.leaf a)
theorem half_two (a b : Itm) (d : Nat) (c : Int) : halfI [a, b] d c = (if btK a.key d = c then [a] else []) ++ (if btK b.key d = c then [b] else []) := by
  unfold halfI
  by_cases h1 : btK a.key d = c <;> by_cases h2 : btK b.key d = c <;> simp [List.filter_cons, h1, h2]
theorem apart_tree (f : Nat) : ∀ {a b : Itm}, Good f [a, b] → f ≤ 256 → apartT f a b = treeF f [a, b] := by
  induction f with
  | zero =>
    intro a b hg _
    have := hg.few
    simp at this
  | succ f ih =>
    intro a b hg hf
    rw [treeF_big f [a, b] (by simp), half_two, half_two]
    unfold apartT
    have g0 := hg.half 0 (by omega)
    have g1 := hg.half 1 (by omega)
    rw [half_two] at g0 g1
    rcases btK_two a.key (255 - f) with h1 | h1 <;> rcases btK_two b.key (255 - f) with h2 | h2
    · simp only [h1, h2, if_true, List.cons_append, List.nil_append, show (0 : Int) ≠ 1 by decide, if_false, List.append_nil] at g0 g1 ⊢
      rw [ih g0 (by omega), treeF_nil]
      obtain ⟨x, y, e⟩ := treeF_node_of g0 (by simp)
      rw [e]; rfl
    · simp only [h1, h2, if_true, List.cons_append, List.nil_append, show (0 : Int) ≠ 1 by decide, show (1 : Int) ≠ 0 by decide, if_false, List.append_nil]
      rw [treeF_one, treeF_one]; rfl
    · simp only [h1, h2, if_true, List.cons_append, List.nil_append, show (0 : Int) ≠ 1 by decide, show (1 : Int) ≠ 0 by decide, if_false, List.append_nil]
      rw [treeF_one, treeF_one]; rfl
    · simp only [h1, h2, if_true, List.cons_append, List.nil_append, show (1 : Int) ≠ 0 by decide, if_false, List.append_nil] at g0 g1 ⊢
      rw [ih g1 (by omega), treeF_nil]
      obtain ⟨x, y, e⟩ := treeF_node_of g1 (by simp)
      rw [e]; rfl

/-! ### put -/
def putI (l : List Itm) (x : Itm) : List Itm := x :: l.filter fun y => decide (y.key ≠ x.key)
def delI (l : List Itm) (k : ByteArray) : List Itm := l.filter fun y => decide (y.key ≠ k)
def putT : Nat → Tr → Itm → Tr
  | _, .nil, x => .leaf x
  | f, .leaf y, x => if pathK y.key = pathK x.key then .leaf x else apartT f y x
  | 0, .node _ _, _ => .nil
  | f + 1, .node l r, x => if btK x.key (255 - f) = 0 then joinT (putT f l x) r else joinT l (putT f r x)
def delT : Nat → Tr → ByteArray → Tr
  | _, .nil, _ => .nil
  | _, .leaf y, k => if y.key = k then .nil else .leaf y
  | 0, .node _ _, _ => .nil
  | f + 1, .node l r, k => if btK k (255 - f) = 0 then joinT (delT f l k) r else joinT l (delT f r k)
theorem filter_comm {α : Type} (p q : α → Bool) (l : List α) : (l.filter p).filter q = (l.filter q).filter p := by
  rw [List.filter_filter, List.filter_filter]
  congr 1
  funext x
  rw [Bool.and_comm]
theorem half_del (l : List Itm) (k : ByteArray) (d : Nat) (b : Int) : halfI (delI l k) d b = delI (halfI l d b) k := filter_comm _ _ _
theorem del_other {l : List Itm} {k : ByteArray} {d : Nat} {b : Int} (h : btK k d ≠ b) : delI (halfI l d b) k = halfI l d b := by
  unfold delI
  rw [List.filter_eq_self]
  intro x hx
  have := (half_mem.1 hx).2
  simp only [decide_eq_true_eq]
  rintro rfl
  exact h this
theorem half_put_same {l : List Itm} {x : Itm} {d : Nat} {b : Int} (h : btK x.key d = b) : halfI (putI l x) d b = putI (halfI l d b) x := by
  have := half_del l x.key d b
  unfold halfI delI putI at *
  rw [List.filter_cons, if_pos (by simp [h]), this]
theorem half_put_other {l : List Itm} {x : Itm} {d : Nat} {b : Int} (h : btK x.key d ≠ b) : halfI (putI l x) d b = halfI l d b := by
  have h1 := half_del l x.key d b
  have h2 := del_other (l := l) h
  unfold halfI delI putI at *
  rw [List.filter_cons, if_neg (by simp [h]), h1, h2]
/-- Sums tell keys apart. -/
def Tells (l : List Itm) (k : ByteArray) : Prop := ∀ y ∈ l, pathK y.key = pathK k → y.key = k
theorem putT_tree (f : Nat) : ∀ {l : List Itm} {x : Itm}, f ≤ 256 → Good f l → Good f (putI l x) → Tells l x.key → putT f (treeF f l) x = treeF f (putI l x) := by
  induction f with
  | zero =>
    intro l x _ hg hp ht
    match l, hg.few with
    | [], _ => rfl
    | [y], _ =>
      rw [treeF_one]
      unfold putT
      by_cases h : pathK y.key = pathK x.key
      · have hk := ht y (by simp) h
        rw [if_pos h]
        unfold putI
        rw [List.filter_cons, if_neg (by simp [hk])]
        rfl
      · have hk : y.key ≠ x.key := fun e => h (by rw [e])
        exfalso
        have e : putI [y] x = [x, y] := by unfold putI; rw [List.filter_cons, if_pos (by simp [hk])]; rfl
        rw [e] at hp
        have := hp.few
        simp at this
  | succ f ih =>
    intro l x hf hg hp ht
    by_cases h2 : 2 ≤ l.length
    · rw [treeF_big f l h2]
      unfold putT
      rw [← join_tree hp (by omega)]
      rcases btK_two x.key (255 - f) with hb | hb
      · rw [if_pos hb, half_put_same hb, half_put_other (b := 1) (by rw [hb]; decide), ih (by omega) (hg.half 0 (by omega)) (by have := hp.half 0 (by omega); rwa [half_put_same hb] at this) (fun y hy => ht y (half_mem.1 hy).1)]
      · rw [if_neg (by rw [hb]; decide), half_put_same hb, half_put_other (b := 0) (by rw [hb]; decide), ih (by omega) (hg.half 1 (by omega)) (by have := hp.half 1 (by omega); rwa [half_put_same hb] at this) (fun y hy => ht y (half_mem.1 hy).1)]
    · match l, h2 with
      | [], _ => rw [treeF_nil]; unfold putT putI; rw [List.filter_nil, treeF_one]
      | [y], _ =>
        rw [treeF_one]
        unfold putT
        by_cases h : pathK y.key = pathK x.key
        · have hk := ht y (by simp) h
          rw [if_pos h]
          unfold putI
          rw [List.filter_cons, if_neg (by simp [hk]), List.filter_nil, treeF_one]
        · have hk : y.key ≠ x.key := fun e => h (by rw [e])
          have e : putI [y] x = [x, y] := by unfold putI; rw [List.filter_cons, if_pos (by simp [hk])]; rfl
          rw [if_neg h]
          rw [e] at hp ⊢
          have hs : [x, y].Perm [y, x] := List.Perm.swap y x []
          rw [treeF_perm (f + 1) hp hf hs, apart_tree (f + 1) (hp.perm hs) hf]
      | x :: y :: l, h2 => simp at h2
theorem delT_tree (f : Nat) : ∀ {l : List Itm} {k : ByteArray}, f ≤ 256 → Good f l → delT f (treeF f l) k = treeF f (delI l k) := by
  induction f with
  | zero =>
    intro l k _ hg
    match l, hg.few with
    | [], _ => rfl
    | [y], _ =>
      rw [treeF_one]
      unfold delT delI
      by_cases h : y.key = k
      · rw [if_pos h, List.filter_cons, if_neg (by simp [h])]; rfl
      · rw [if_neg h, List.filter_cons, if_pos (by simp [h])]; rfl
  | succ f ih =>
    intro l k hf hg
    have hd : Good (f + 1) (delI l k) := hg.sub List.filter_sublist
    by_cases h2 : 2 ≤ l.length
    · rw [treeF_big f l h2]
      unfold delT
      rw [← join_tree hd (by omega), half_del, half_del]
      rcases btK_two k (255 - f) with hb | hb
      · rw [if_pos hb, del_other (b := 1) (by rw [hb]; decide), ih (by omega) (hg.half 0 (by omega))]
      · rw [if_neg (by rw [hb]; decide), del_other (b := 0) (by rw [hb]; decide), ih (by omega) (hg.half 1 (by omega))]
    · match l, h2 with
      | [], _ => rw [treeF_nil]; unfold delT delI; rw [List.filter_nil, treeF_nil]
      | [y], _ =>
        rw [treeF_one]
        unfold delT delI
        by_cases h : y.key = k
        · rw [if_pos h, List.filter_cons, if_neg (by simp [h]), List.filter_nil, treeF_nil]
        · rw [if_neg h, List.filter_cons, if_pos (by simp [h]), List.filter_nil, treeF_one]
      | x :: y :: l, h2 => simp at h2

/-! ### what a tree of items is like -/
theorem treeF_ht (f : Nat) : ∀ l : List Itm, (treeF f l).ht ≤ f := by
  induction f with
  | zero => intro l; match l with
    | [] => simp [treeF, Tr.ht]
    | [x] => simp [treeF, Tr.ht]
    | x :: y :: l => simp [treeF, Tr.ht]
  | succ f ih =>
    intro l
    match l with
    | [] => simp [treeF_nil, Tr.ht]
    | [x] => simp [treeF_one, Tr.ht]
    | x :: y :: l =>
      rw [treeF_big f _ (by simp)]
      unfold Tr.ht
      have h1 := ih (halfI (x :: y :: l) (255 - f) 0)
      have h2 := ih (halfI (x :: y :: l) (255 - f) 1)
      omega
theorem treeF_count (f : Nat) : ∀ {l : List Itm}, f ≤ 256 → Good f l → (treeF f l).count = l.length := by
  induction f with
  | zero =>
    intro l _ hg
    match l, hg.few with
    | [], _ => rfl
    | [x], _ => rfl
  | succ f ih =>
    intro l hf hg
    by_cases h2 : 2 ≤ l.length
    · rw [treeF_big f l h2]
      unfold Tr.count
      rw [ih (by omega) (hg.half 0 (by omega)), ih (by omega) (hg.half 1 (by omega)), half_length]
    · match l, h2 with
      | [], _ => rfl
      | [x], _ => rfl
      | x :: y :: l, h2 => simp at h2
theorem treeF_wf (f : Nat) : ∀ {l : List Itm}, f ≤ 256 → Good f l → (treeF f l).Wf := by
  induction f with
  | zero =>
    intro l _ hg
    match l, hg.few with
    | [], _ => trivial
    | [x], _ => trivial
  | succ f ih =>
    intro l hf hg
    by_cases h2 : 2 ≤ l.length
    · rw [treeF_big f l h2]
      have g0 := hg.half 0 (by omega)
      have g1 := hg.half 1 (by omega)
      refine ⟨?_, ih (by omega) g0, ih (by omega) g1⟩
      rw [treeF_count f (by omega) g0, treeF_count f (by omega) g1, half_length]
      omega
    · match l, h2 with
      | [], _ => trivial
      | [x], _ => trivial
      | x :: y :: l, h2 => simp at h2

/-! ### the way to a key -/
/-- The digests beside the way, from the depth 256 - f on, and what stands at its end. -/
def wayT : Nat → Tr → ByteArray → List (List UInt8) × Tr
  | _, .nil, _ => ([], .nil)
  | _, .leaf y, _ => ([], .leaf y)
  | 0, .node l r, _ => ([], .node l r)
  | f + 1, .node l r, k => if btK k (255 - f) = 1 then (l.dig :: (wayT f r k).1, (wayT f r k).2) else (r.dig :: (wayT f l k).1, (wayT f l k).2)
end Go.Proofs.YtmbgfjcmdolggaaDoor

/- A tree in memory; the walks of what reads it. -/
namespace Go.Proofs.YtmbgfjcmdolggaaDoor
open Go.RowKit PrintLast

/-- The digest of a tree, as a string. -/
def digS (t : Tr) : ByteArray := strB t.dig
theorem digS_nil : digS .nil = dig [0] := rfl
theorem digS_leaf (x : Itm) : digS (.leaf x) = dig (leafD x) := rfl
theorem digS_node (l r : Tr) : digS (.node l r) = dig (nodeB l.dig r.dig) := rfl
def pathS (k : ByteArray) : ByteArray := dig k.data.toList
theorem pathS_list (k : ByteArray) : (pathS k).data.toList = pathK k := dig_list _
theorem digS_list (t : Tr) : (digS t).data.toList = t.dig := strB_list _
theorem dig_len (t : Tr) : t.dig.length = 32 := by cases t <;> exact sum256_length _
theorem digS_size (t : Tr) : (digS t).size = 32 := by unfold digS; rw [strB_size, dig_len]

/-- The cells of a node. -/
def ncells (l r : Value) (path key : ByteArray) (row : Value) (d : ByteArray) (n : Nat) : Array Value := #[l, r, .string path, .string key, row, .string d, .int .i64 (n : Int)]
/-- A tree whose blocks lie below N. -/
def TreeAt (w : World) (N : Nat) : Value → Tr → Prop
  | v, .nil => v = .pointer none
  | v, .leaf x => ∃ g B d, v = .pointer (some ⟨g, 0, none⟩) ∧ g < N ∧ w.heap[g]? = some (.cells (ncells (.pointer none) (.pointer none) (pathS x.key) x.key (.slice B x.row.length d) (digS (.leaf x)) 1) 93 (0, 0)) ∧ BSA w B d x.row ∧ (0 < x.row.length → ∃ gb o, B = some ⟨gb, o, none⟩ ∧ gb < N)
  | v, .node l r => ∃ g vl vr, v = .pointer (some ⟨g, 0, none⟩) ∧ g < N ∧ w.heap[g]? = some (.cells (ncells vl vr ⟨#[]⟩ ⟨#[]⟩ (.slice none 0 0) (digS (.node l r)) (l.count + r.count)) 93 (0, 0)) ∧ TreeAt w N vl l ∧ TreeAt w N vr r
theorem bsa_move {w w' : World} {N : Nat} {B : Option Addr} {d : Nat} {l : List UInt8} (h : BSA w B d l) (hb : Below N w w') (h3 : 0 < l.length → ∃ g o, B = some ⟨g, o, none⟩ ∧ g < N) : BSA w' B d l := by
  refine ⟨h.1, h.2.1, h.2.2.1, fun ad e j hj => ?_⟩
  obtain ⟨g, o, e3, hg⟩ := h3 (by omega)
  have hc := h.2.2.2 ad e j hj
  rw [e3] at e
  cases e
  exact (hb.cell (by rw [addr_add_block]; exact hg)).trans hc
theorem TreeAt.move {w w' : World} {N : Nat} {v : Value} {t : Tr} (h : TreeAt w N v t) (hb : Below N w w') : TreeAt w' N v t := by
  induction t generalizing v with
  | nil => exact h
  | leaf x =>
    obtain ⟨g, B, d, h1, h2, h3, h4, h5⟩ := h
    exact ⟨g, B, d, h1, h2, (hb.block g h2).trans h3, bsa_move h4 hb h5, h5⟩
  | node l r ihl ihr =>
    obtain ⟨g, vl, vr, h1, h2, h3, h4, h5⟩ := h
    exact ⟨g, vl, vr, h1, h2, (hb.block g h2).trans h3, ihl h4, ihr h5⟩
theorem TreeAt.raise {w : World} {N N' : Nat} {v : Value} {t : Tr} (h : TreeAt w N v t) (hN : N ≤ N') : TreeAt w N' v t := by
  induction t generalizing v with
  | nil => exact h
  | leaf x =>
    obtain ⟨g, B, d, h1, h2, h3, h4, h5⟩ := h
    refine ⟨g, B, d, h1, by omega, h3, h4, fun h0 => ?_⟩
    obtain ⟨gb, o, e, h6⟩ := h5 h0
    exact ⟨gb, o, e, by omega⟩
  | node l r ihl ihr =>
    obtain ⟨g, vl, vr, h1, h2, h3, h4, h5⟩ := h
    exact ⟨g, vl, vr, h1, by omega, h3, ihl h4, ihr h5⟩
/-- A tree in memory. -/
def Tree (w : World) (v : Value) (t : Tr) : Prop := TreeAt w w.heap.size v t
theorem Tree.below {w w' : World} {v : Value} {t : Tr} (h : Tree w v t) (hb : Below w.heap.size w w') : Tree w' v t := (TreeAt.move h hb).raise hb.size
theorem Tree.nil (w : World) : Tree w (.pointer none) .nil := rfl
theorem TreeAt.ptr {w : World} {N : Nat} {v : Value} {t : Tr} (h : TreeAt w N v t) : (t = .nil ∧ v = .pointer none) ∨ ∃ g, v = .pointer (some ⟨g, 0, none⟩) ∧ t ≠ .nil := by
  cases t with
  | nil => exact .inl ⟨rfl, h⟩
  | leaf x => obtain ⟨g, B, d, h1, _⟩ := h; exact .inr ⟨g, h1, by intro e; cases e⟩
  | node l r => obtain ⟨g, vl, vr, h1, _⟩ := h; exact .inr ⟨g, h1, by intro e; cases e⟩

theorem seven {w : World} {g : Nat} {a b c d e f i : Value} {t : TypeId} (h : w.heap[g]? = some (.cells #[a, b, c, d, e, f, i] t (0, 0))) :
    w.cell? ⟨g, 0, none⟩ = some a ∧ w.cell? ⟨g, 1, none⟩ = some b ∧ w.cell? ⟨g, 2, none⟩ = some c ∧ w.cell? ⟨g, 3, none⟩ = some d ∧ w.cell? ⟨g, 4, none⟩ = some e ∧ w.cell? ⟨g, 5, none⟩ = some f ∧ w.cell? ⟨g, 6, none⟩ = some i :=
  ⟨cell_at h rfl, cell_at h rfl, cell_at h rfl, cell_at h rfl, cell_at h rfl, cell_at h rfl, cell_at h rfl⟩
theorem path_ne (k : ByteArray) : (pathS k).toList.isEmpty = false ∧ ¬ (pathS k).toList = [] := by
  have h : (pathS k).toList.length = 32 := by
    unfold pathS dig
    rw [ByteArray.toList_mk]
    simp [sum256_length]
  constructor
  · cases hl : (pathS k).toList with
    | nil => rw [hl] at h; simp at h
    | cons a l => rfl
  · intro e
    rw [e] at h
    simp at h

set_option maxHeartbeats 1600000 in
theorem single_leaf {w : World} {v : Value} {x : Itm} {N : Nat} (h : TreeAt w N v (.leaf x)) :
    Calls Tryd.prog 54 #[v] w fun e w' => e = .returned (.bool true) ∧ w = w' := by
  obtain ⟨g, B, d, rfl, _, h3, _⟩ := h
  obtain ⟨c0, c1, c2, c3, c4, c5, c6⟩ := seven h3
  obtain ⟨e1, e2⟩ := path_ne x.key
  generalize pathS x.key = p at *
  clear h3 c0 c1 c3 c4 c5 c6
  go_enter Tryd.func54, Tryd.ntmps54
  go_wp2
  go_ret
  exact ⟨rfl, rfl⟩
set_option maxHeartbeats 1600000 in
theorem single_node {w : World} {v : Value} {l r : Tr} {N : Nat} (h : TreeAt w N v (.node l r)) :
    Calls Tryd.prog 54 #[v] w fun e w' => e = .returned (.bool false) ∧ w = w' := by
  obtain ⟨g, vl, vr, rfl, _, h3, _⟩ := h
  obtain ⟨c0, c1, c2, c3, c4, c5, c6⟩ := seven h3
  clear h3 c0 c1 c3 c4 c5 c6
  go_enter Tryd.func54, Tryd.ntmps54
  go_wp2
  go_ret
  exact ⟨rfl, rfl⟩
def isLeaf : Tr → Bool
  | .leaf _ => true
  | _ => false
theorem single_any {w : World} {v : Value} {t : Tr} {N : Nat} (h : TreeAt w N v t) :
    Calls Tryd.prog 54 #[v] w fun e w' => e = .returned (.bool (isLeaf t)) ∧ w = w' := by
  cases t with
  | nil => cases h; exact single_nil
  | leaf x => exact single_leaf h
  | node l r => exact single_node h

set_option maxHeartbeats 1600000 in
theorem len_any {w : World} {v : Value} {t : Tr} {N : Nat} (h : TreeAt w N v t) :
    Calls Tryd.prog 75 #[v] w fun e w' => e = .returned (.int .i64 (t.count : Int)) ∧ w = w' := by
  cases t with
  | nil =>
    cases h
    go_enter Tryd.func75, Tryd.ntmps75
    go_wp2
    go_ret
    exact ⟨rfl, rfl⟩
  | leaf x =>
    obtain ⟨g, B, d, rfl, _, h3, _⟩ := h
    obtain ⟨c0, c1, c2, c3, c4, c5, c6⟩ := seven h3
    clear h3 c0 c1 c2 c3 c4 c5
    go_enter Tryd.func75, Tryd.ntmps75
    go_wp2
    go_ret
    exact ⟨rfl, rfl⟩
  | node l r =>
    obtain ⟨g, vl, vr, rfl, _, h3, _⟩ := h
    obtain ⟨c0, c1, c2, c3, c4, c5, c6⟩ := seven h3
    obtain ⟨n, hn⟩ : ∃ n, n = l.count + r.count := ⟨_, rfl⟩
    rw [← hn] at c6
    have HN := hid hn
    clear h3 c0 c1 c2 c3 c4 c5 hn
    go_enter Tryd.func75, Tryd.ntmps75
    go_wp2
    go_ret
    exact ⟨by rw [show (Tr.node l r).count = n from HN.out.symm]; rfl, rfl⟩

set_option maxHeartbeats 1600000 in
theorem digest_any {w : World} (hT : Table w) {v : Value} {t : Tr} {N : Nat} (h : TreeAt w N v t) :
    Calls Tryd.prog 32 #[v] w fun e w' => e = .returned (.string (digS t)) ∧ Below w.heap.size w w' := by
  cases t with
  | nil =>
    cases h
    have H := hid (empty_any hT)
    go_enter Tryd.func32, Tryd.ntmps32
    go_wp2_with fail
    refine H.out.mono ?_
    rintro e w1 ⟨rfl, b1⟩
    go_wp2
    go_ret
    exact ⟨rfl, b1⟩
  | leaf x =>
    obtain ⟨g, B, d, rfl, _, h3, _⟩ := h
    obtain ⟨c0, c1, c2, c3, c4, c5, c6⟩ := seven h3
    clear h3 c0 c1 c2 c3 c4 c6 hT
    go_enter Tryd.func32, Tryd.ntmps32
    go_wp2
    go_ret
    exact ⟨rfl, Below.refl _ _⟩
  | node l r =>
    obtain ⟨g, vl, vr, rfl, _, h3, _⟩ := h
    obtain ⟨c0, c1, c2, c3, c4, c5, c6⟩ := seven h3
    clear h3 c0 c1 c2 c3 c4 c6 hT
    go_enter Tryd.func32, Tryd.ntmps32
    go_wp2
    go_ret
    exact ⟨rfl, Below.refl _ _⟩

/-- The halves of a tree. -/
def isNode : Tr → Bool
  | .node _ _ => true
  | _ => false
set_option maxHeartbeats 1600000 in
theorem halves_leaf {w : World} {v : Value} {x : Itm} {N : Nat} (h : TreeAt w N v (.leaf x)) :
    Calls Tryd.prog 29 #[v] w fun e w' => e = .returned (.tuple #[.pointer none, .pointer none, .bool false]) ∧ w = w' := by
  have H := hid (single_leaf h)
  obtain ⟨g, B, d, rfl, _⟩ := h
  go_enter Tryd.func29, Tryd.ntmps29
  go_wp2_with fail
  refine H.out.mono ?_
  rintro e w1 ⟨rfl, rfl⟩
  go_wp2
  go_ret3
  exact ⟨rfl, rfl⟩
set_option maxHeartbeats 1600000 in
theorem halves_node {w : World} {v : Value} {l r : Tr} {N : Nat} (h : TreeAt w N v (.node l r)) :
    Calls Tryd.prog 29 #[v] w fun e w' => ∃ vl vr, e = .returned (.tuple #[vl, vr, .bool true]) ∧ TreeAt w' N vl l ∧ TreeAt w' N vr r ∧ Below w.heap.size w w' := by
  have H := hid (single_node h)
  obtain ⟨g, vl, vr, rfl, _, h3, h4, h5⟩ := h
  obtain ⟨c0, c1, c2, c3, c4, c5, c6⟩ := seven h3
  have HL := hid (And.intro h4 h5)
  clear h3 c2 c3 c4 c5 c6 h4 h5
  go_enter Tryd.func29, Tryd.ntmps29
  go_wp2_with fail
  refine H.out.mono ?_
  rintro e w1 ⟨rfl, rfl⟩
  clear H
  go_wp2
  refine start_ (n := 11) (S := fun w' => w'.cell? ⟨g, 0, none⟩ = some vl ∧ w'.cell? ⟨g, 1, none⟩ = some vr) (ds := []) #[false, false, false, false, false, false, false, false, false, false, false] (by kernel_rfl) rfl rfl ⟨c0, c1⟩ (fun hHeld => ?_)
  refine pure_ (i := 0) (N := some 11) (v := ?_) (a' := ?_) #[true, false, false, false, false, false, false, false, false, false, false] rfl rfl (by kernel_rfl) (fun _ _ _ h => h) (Or.inl ⟨by rfl, ?_⟩) ?_ ?_
  rotate_left
  · intro w'
    go_simp
    with_reducible rfl
  rotate_left
  · simp only [Act.put, List.setIfInBounds_toArray, List.set_cons_zero, List.set_cons_succ, i64_w, i32_w]
    rfl
  refine pure_ (i := 1) (N := some 12) (v := ?_) (a' := ?_) #[true, true, false, false, false, false, false, false, false, false, false] rfl rfl (by kernel_rfl) (fun _ _ _ h => h) (Or.inl ⟨by rfl, ?_⟩) ?_ ?_
  rotate_left
  · intro w'
    go_simp
    with_reducible rfl
  rotate_left
  · simp only [Act.put, List.setIfInBounds_toArray, List.set_cons_zero, List.set_cons_succ, i64_w, i32_w]
    rfl
  refine pure_ (i := 2) (N := some 13) (v := ?_) (a' := ?_) #[true, true, true, false, false, false, false, false, false, false, false] rfl rfl (by kernel_rfl) (fun _ _ _ h => h) (Or.inl ⟨by rfl, ?_⟩) ?_ ?_
  rotate_left
  · intro w'
    go_simp
    with_reducible rfl
  rotate_left
  · simp only [Act.put, List.setIfInBounds_toArray, List.set_cons_zero, List.set_cons_succ, i64_w, i32_w]
    rfl
  refine pure_ (i := 4) (N := some 15) (v := ?_) (a' := ?_) #[true, true, true, false, true, false, false, false, false, false, false] rfl rfl (by kernel_rfl) (fun _ _ _ h => h) (Or.inl ⟨by rfl, ?_⟩) ?_ ?_
  rotate_left
  · intro w'
    go_simp
    with_reducible rfl
  rotate_left
  · simp only [Act.put, List.setIfInBounds_toArray, List.set_cons_zero, List.set_cons_succ, i64_w, i32_w]
    rfl
  refine pure_ (i := 5) (N := some 16) (v := ?_) (a' := ?_) #[true, true, true, false, true, true, false, false, false, false, false] rfl rfl (by kernel_rfl) (fun _ _ _ h => h) (Or.inl ⟨by rfl, ?_⟩) ?_ ?_
  rotate_left
  · intro w'
    go_simp
    with_reducible rfl
  rotate_left
  · simp only [Act.put, List.setIfInBounds_toArray, List.set_cons_zero, List.set_cons_succ, i64_w, i32_w]
    rfl
  refine pure_ (i := 6) (N := some 17) (v := ?_) (a' := ?_) #[true, true, true, false, true, true, true, false, false, false, false] rfl rfl (by kernel_rfl) (fun _ _ _ h => h) (Or.inl ⟨by rfl, ?_⟩) ?_ ?_
  rotate_left
  · intro w'
    go_simp
    with_reducible rfl
  rotate_left
  · simp only [Act.put, List.setIfInBounds_toArray, List.set_cons_zero, List.set_cons_succ, i64_w, i32_w]
    rfl
  refine take_ (i := 3) (N := some 14) (v := ?_) (a' := ?_) #[true, true, true, true, true, true, true, false, false, false, false] rfl rfl (by kernel_rfl) (fun _ _ _ h => h) (Or.inl ⟨by rfl, ?_⟩) hHeld ?_ ?_
  rotate_left
  · rintro w' ⟨s0, s1⟩
    go_simp
    with_reducible rfl
  rotate_left
  · simp only [Act.put, List.setIfInBounds_toArray, List.set_cons_zero, List.set_cons_succ, i64_w, i32_w]
    rfl
  refine pure_ (i := 8) (N := some 2) (v := ?_) (a' := ?_) #[true, true, true, true, true, true, true, false, true, false, false] rfl rfl (by kernel_rfl) (fun _ _ _ h => h) (Or.inl ⟨by rfl, ?_⟩) ?_ ?_
  rotate_left
  · intro w'
    go_simp
    with_reducible rfl
  rotate_left
  · simp only [Act.put, List.setIfInBounds_toArray, List.set_cons_zero, List.set_cons_succ, i64_w, i32_w]
    rfl
  refine take_ (i := 7) (N := some 18) (v := ?_) (a' := ?_) #[true, true, true, true, true, true, true, true, true, false, false] rfl rfl (by kernel_rfl) (fun _ _ _ h => h) (Or.inl ⟨by rfl, ?_⟩) hHeld ?_ ?_
  rotate_left
  · rintro w' ⟨s0, s1⟩
    go_simp
    with_reducible rfl
  rotate_left
  · simp only [Act.put, List.setIfInBounds_toArray, List.set_cons_zero, List.set_cons_succ, i64_w, i32_w]
    rfl
  refine pure_ (i := 9) (N := some 3) (v := ?_) (a' := ?_) #[true, true, true, true, true, true, true, true, true, true, false] rfl rfl (by kernel_rfl) (fun _ _ _ h => h) (Or.inl ⟨by rfl, ?_⟩) ?_ ?_
  rotate_left
  · intro w'
    go_simp
    with_reducible rfl
  rotate_left
  · simp only [Act.put, List.setIfInBounds_toArray, List.set_cons_zero, List.set_cons_succ, i64_w, i32_w]
    rfl
  refine pure_ (i := 10) (N := some 4) (v := ?_) (a' := ?_) #[true, true, true, true, true, true, true, true, true, true, true] rfl rfl (by kernel_rfl) (fun _ _ _ h => h) (Or.inl ⟨by rfl, ?_⟩) ?_ ?_
  rotate_left
  · intro w'
    go_simp
    with_reducible rfl
  rotate_left
  · simp only [Act.put, List.setIfInBounds_toArray, List.set_cons_zero, List.set_cons_succ, i64_w, i32_w]
    rfl
  refine done_ (by kernel_rfl) ?_
  go_wp2
  go_ret3
  exact ⟨vl, vr, rfl, HL.out.1.move (Below.refl _ _).drew, HL.out.2.move (Below.refl _ _).drew, (Below.refl _ _).drew⟩

set_option maxHeartbeats 1600000 in
theorem leafOf_leaf {w : World} {v : Value} {x : Itm} {N : Nat} (hx : x.row.length ≤ 1000000) (h : TreeAt w N v (.leaf x)) :
    Calls Tryd.prog 33 #[v] w fun e w' => ∃ A c, e = .returned (.tuple #[.string x.key, .slice A x.row.length c, .bool true]) ∧ Row w' w.heap.size A c x.row ∧ Below w.heap.size w w' := by
  have H := hid (single_leaf h)
  obtain ⟨g, B, d, rfl, _, h3, h4, _⟩ := h
  obtain ⟨c0, c1, c2, c3, c4, c5, c6⟩ := seven h3
  have HC := hid (clone_gave rfl (show BSA w.drew B d x.row from h4) (by omega))
  clear h3 h4 c0 c1 c2 c5 c6
  go_enter Tryd.func33, Tryd.ntmps33
  go_wp2_with fail
  refine H.out.mono ?_
  rintro e w1 ⟨rfl, rfl⟩
  clear H
  go_wp2
  refine start_ (n := 12) (S := fun w' => w'.cell? ⟨g, 3, none⟩ = some (.string x.key) ∧ w'.cell? ⟨g, 4, none⟩ = some (.slice B x.row.length d)) (ds := []) #[false, false, false, false, false, false, false, false, false, false, false, false] (by kernel_rfl) rfl rfl ⟨c3, c4⟩ (fun hHeld => ?_)
  refine pure_ (i := 0) (N := some 8) (v := ?_) (a' := ?_) #[true, false, false, false, false, false, false, false, false, false, false, false] rfl rfl (by kernel_rfl) (fun _ _ _ h => h) (Or.inl ⟨by rfl, ?_⟩) ?_ ?_
  rotate_left
  · intro w'
    go_simp
    with_reducible rfl
  rotate_left
  · simp only [Act.put, List.setIfInBounds_toArray, List.set_cons_zero, List.set_cons_succ, i64_w, i32_w]
    rfl
  refine pure_ (i := 1) (N := some 9) (v := ?_) (a' := ?_) #[true, true, false, false, false, false, false, false, false, false, false, false] rfl rfl (by kernel_rfl) (fun _ _ _ h => h) (Or.inl ⟨by rfl, ?_⟩) ?_ ?_
  rotate_left
  · intro w'
    go_simp
    with_reducible rfl
  rotate_left
  · simp only [Act.put, List.setIfInBounds_toArray, List.set_cons_zero, List.set_cons_succ, i64_w, i32_w]
    rfl
  refine pure_ (i := 2) (N := some 10) (v := ?_) (a' := ?_) #[true, true, true, false, false, false, false, false, false, false, false, false] rfl rfl (by kernel_rfl) (fun _ _ _ h => h) (Or.inl ⟨by rfl, ?_⟩) ?_ ?_
  rotate_left
  · intro w'
    go_simp
    with_reducible rfl
  rotate_left
  · simp only [Act.put, List.setIfInBounds_toArray, List.set_cons_zero, List.set_cons_succ, i64_w, i32_w]
    rfl
  refine pure_ (i := 4) (N := some 12) (v := ?_) (a' := ?_) #[true, true, true, false, true, false, false, false, false, false, false, false] rfl rfl (by kernel_rfl) (fun _ _ _ h => h) (Or.inl ⟨by rfl, ?_⟩) ?_ ?_
  rotate_left
  · intro w'
    go_simp
    with_reducible rfl
  rotate_left
  · simp only [Act.put, List.setIfInBounds_toArray, List.set_cons_zero, List.set_cons_succ, i64_w, i32_w]
    rfl
  refine pure_ (i := 5) (N := some 13) (v := ?_) (a' := ?_) #[true, true, true, false, true, true, false, false, false, false, false, false] rfl rfl (by kernel_rfl) (fun _ _ _ h => h) (Or.inl ⟨by rfl, ?_⟩) ?_ ?_
  rotate_left
  · intro w'
    go_simp
    with_reducible rfl
  rotate_left
  · simp only [Act.put, List.setIfInBounds_toArray, List.set_cons_zero, List.set_cons_succ, i64_w, i32_w]
    rfl
  refine pure_ (i := 6) (N := some 14) (v := ?_) (a' := ?_) #[true, true, true, false, true, true, true, false, false, false, false, false] rfl rfl (by kernel_rfl) (fun _ _ _ h => h) (Or.inl ⟨by rfl, ?_⟩) ?_ ?_
  rotate_left
  · intro w'
    go_simp
    with_reducible rfl
  rotate_left
  · simp only [Act.put, List.setIfInBounds_toArray, List.set_cons_zero, List.set_cons_succ, i64_w, i32_w]
    rfl
  refine take_ (i := 3) (N := some 11) (v := ?_) (a' := ?_) #[true, true, true, true, true, true, true, false, false, false, false, false] rfl rfl (by kernel_rfl) (fun _ _ _ h => h) (Or.inl ⟨by rfl, ?_⟩) hHeld ?_ ?_
  rotate_left
  · rintro w' ⟨s0, s1⟩
    go_simp
    with_reducible rfl
  rotate_left
  · simp only [Act.put, List.setIfInBounds_toArray, List.set_cons_zero, List.set_cons_succ, i64_w, i32_w]
    rfl
  refine take_ (i := 7) (N := some 15) (v := ?_) (a' := ?_) #[true, true, true, true, true, true, true, true, false, false, false, false] rfl rfl (by kernel_rfl) (fun _ _ _ h => h) (Or.inl ⟨by rfl, ?_⟩) hHeld ?_ ?_
  rotate_left
  · rintro w' ⟨s0, s1⟩
    go_simp
    with_reducible rfl
  rotate_left
  · simp only [Act.put, List.setIfInBounds_toArray, List.set_cons_zero, List.set_cons_succ, i64_w, i32_w]
    rfl
  refine one_ (i := 8) (N := some 16) #[true, true, true, true, true, true, true, true, true, false, false, false] rfl rfl (by kernel_rfl) (by decide) (fun K hK => ?_)
  refine goes_ Tryd.func58 (by kernel_rfl) rfl #[.slice B x.row.length d] (by rfl) rfl rfl (by simp only [List.map_toArray, List.map_cons, List.map_nil]; rfl) ?_
  with_reducible refine (HC.out).mono ?_
  rintro e' w1 ⟨A1, a1, rfl, r1, b1⟩
  refine ⟨_, rfl, ?_⟩
  refine hK.out _ _ ⟨(below_cell b1 hHeld.1), (below_cell b1 hHeld.2)⟩ (fun hHeld => ?_)
  clear hK K
  refine norm_ (a' := ?_) ?_ ?_
  rotate_left
  · show Act.put _ (some 16) _ = _
    simp only [Act.put, List.setIfInBounds_toArray, List.set_cons_zero, List.set_cons_succ, i64_w, i32_w]
    rfl
  refine pure_ (i := 9) (N := some 2) (v := ?_) (a' := ?_) #[true, true, true, true, true, true, true, true, true, true, false, false] rfl rfl (by kernel_rfl) (fun _ _ _ h => h) (Or.inl ⟨by rfl, ?_⟩) ?_ ?_
  rotate_left
  · intro w'
    go_simp
    with_reducible rfl
  rotate_left
  · simp only [Act.put, List.setIfInBounds_toArray, List.set_cons_zero, List.set_cons_succ, i64_w, i32_w]
    rfl
  refine pure_ (i := 10) (N := some 3) (v := ?_) (a' := ?_) #[true, true, true, true, true, true, true, true, true, true, true, false] rfl rfl (by kernel_rfl) (fun _ _ _ h => h) (Or.inl ⟨by rfl, ?_⟩) ?_ ?_
  rotate_left
  · intro w'
    go_simp
    with_reducible rfl
  rotate_left
  · simp only [Act.put, List.setIfInBounds_toArray, List.set_cons_zero, List.set_cons_succ, i64_w, i32_w]
    rfl
  refine pure_ (i := 11) (N := some 4) (v := ?_) (a' := ?_) #[true, true, true, true, true, true, true, true, true, true, true, true] rfl rfl (by kernel_rfl) (fun _ _ _ h => h) (Or.inl ⟨by rfl, ?_⟩) ?_ ?_
  rotate_left
  · intro w'
    go_simp
    with_reducible rfl
  rotate_left
  · simp only [Act.put, List.setIfInBounds_toArray, List.set_cons_zero, List.set_cons_succ, i64_w, i32_w]
    rfl
  refine done_ (by kernel_rfl) ?_
  have b2 : Below w.heap.size w w1 := (Below.refl w.heap.size w).drew.trans b1
  go_wp2
  go_ret3
  exact ⟨A1, a1, rfl, r1, b2⟩
set_option maxHeartbeats 1600000 in
theorem leafOf_none {w : World} {v : Value} {t : Tr} {N : Nat} (ht : isLeaf t = false) (h : TreeAt w N v t) :
    Calls Tryd.prog 33 #[v] w fun e w' => e = .returned (.tuple #[.string ⟨#[]⟩, .slice none 0 0, .bool false]) ∧ w = w' := by
  have H0 := single_any h
  rw [ht] at H0
  have H := hid H0
  clear H0 h ht
  go_enter Tryd.func33, Tryd.ntmps33
  go_wp2_with fail
  refine H.out.mono ?_
  rintro e w1 ⟨rfl, rfl⟩
  go_wp2
  go_ret3
  exact ⟨rfl, rfl⟩
end Go.Proofs.YtmbgfjcmdolggaaDoor

/- The walks of what makes trees: leaf, join, half, with. -/
namespace Go.Proofs.YtmbgfjcmdolggaaDoor
open Go.RowKit PrintLast

theorem bitK_any {w : World} {k : ByteArray} {d : Nat} (hd : d ≤ 1000000) :
    Calls Tryd.prog 48 #[.string (pathS k), .int .i64 (d : Int)] w fun e w' => e = .returned (.int .i64 (btK k d)) ∧ w = w' := by
  have := bit_any (w := w) (s := pathS k) (i := (d : Int)) (by rw [pathS_list, path_length]; omega) ⟨by omega, by omega⟩
  rw [pathS_list] at this
  exact this
/-- What a call answers that makes a tree. -/
def Grew (w : World) (t : Tr) (e : Ending) (w' : World) : Prop := ∃ v, e = .returned v ∧ Tree w' v t ∧ Below w.heap.size w w'
theorem sumK {w : World} (hT : Table w) {g c : Nat} {k : ByteArray} (hk : k.size ≤ 1000000) (hp : BSA w (some ⟨g, 0, none⟩) c k.data.toList) :
    Calls Tryd.prog 47 #[.slice (some ⟨g, 0, none⟩) k.size c] w fun e w' => e = .returned (.string (pathS k)) ∧ Below w.heap.size w w' := sum_dig (bsz k) hT hp (by rw [bsz]; omega)

set_option maxHeartbeats 3200000 in
theorem leaf_new {w : World} (hT : Table w) {key : ByteArray} {A : Option Addr} {c n : Nat} {row : List UInt8} (hk : key.size ≤ 1000000) (hn : row.length = n) (hr : n ≤ 1000000) (hA : BSA w A c row) :
    Calls Tryd.prog 46 #[.string key, .slice A n c] w (Grew w (.leaf ⟨key, row⟩)) := by
  have ks : key.size ≤ maxLen := by unfold maxLen; omega
  have TT := hid hT
  have AA := hid hA
  have HN := hid hn
  clear hT hA hn
  go_enter Tryd.func46, Tryd.ntmps46
  go_wp2_with (refine wpList_conv rfl (.tmp 5) rfl key rfl ks ?_)
  intro g1 c1 w1 _ q1 b1
  replace TT := hid (TT.out.below b1)
  replace AA := hid (AA.out.below b1)
  have BB := hid b1
  have H := hid (sumK TT.out hk q1)
  clear b1 q1 ks
  go_wp2_with fail
  refine H.out.mono ?_
  rintro e w2 ⟨rfl, b2⟩
  replace TT := hid (TT.out.below b2)
  replace AA := hid (AA.out.below b2)
  replace BB := hid (below_then BB.out b2)
  have H := hid (clone_gave HN.out AA.out (by rw [HN.out]; omega))
  clear b2
  go_wp2_with fail
  refine H.out.mono ?_
  rintro e w3 ⟨A3, c3, rfl, r3, b3⟩
  rw [HN.out]
  replace TT := hid (TT.out.below b3)
  replace AA := hid (AA.out.below b3)
  replace BB := hid (below_then BB.out b3)
  have RR := hid r3
  have H0 := leaf_any TT.out hk (by rw [HN.out]; exact hr) AA.out
  rw [HN.out] at H0
  have H := hid H0
  clear b3 r3 H0
  go_wp2_with fail
  refine H.out.mono ?_
  rintro e w4 ⟨rfl, b4⟩
  replace RR := hid (RR.out.below b4)
  replace BB := hid (below_then BB.out b4)
  obtain ⟨P, hP⟩ : ∃ P, P = pathS key := ⟨_, rfl⟩
  obtain ⟨D, hD⟩ : ∃ D, D = dig (leafB key.data.toList row) := ⟨_, rfl⟩
  rw [← hP, ← hD]
  have al := below_alloc (Below.refl _ w4) (.cells #[.pointer none, .pointer none, .string P, .string key, .slice A3 n c3, .string D, .int .i64 1] 93)
  have gb := heap_alloc_new w4 (.cells #[.pointer none, .pointer none, .string P, .string key, .slice A3 n c3, .string D, .int .i64 1] 93)
  have R5 := RR.out.below al
  have FIN : Hid (Tree (w4.alloc (.cells #[.pointer none, .pointer none, .string P, .string key, .slice A3 n c3, .string D, .int .i64 1] 93)) (.pointer (some ⟨w4.heap.size, 0, none⟩)) (.leaf ⟨key, row⟩)) := hid (by
    refine ⟨w4.heap.size, A3, c3, rfl, by simp, ?_, R5.bsa, fun h0 => ?_⟩
    · rw [gb, hP, hD]
      show _ = some (Obj.cells (ncells _ _ _ _ (.slice A3 row.length c3) _ _) _ _)
      rw [HN.out]
      rfl
    · obtain ⟨g, rfl⟩ := R5.place h0
      obtain ⟨cur, hg, _, _⟩ := R5.heap
      exact ⟨g, 0, rfl, lt_of_block hg⟩)
  have B5 := hid (below_then BB.out al)
  clear al gb R5 hP hD H b4
  go_wp2
  go_ret
  exact ⟨_, rfl, FIN.out, B5.out⟩

theorem half_any {w : World} {N : Nat} {v : Value} {l r : Tr} {k : ByteArray} {d : Nat} (hd : d ≤ 1000000) (h : TreeAt w N v (.node l r)) :
    Calls Tryd.prog 61 #[v, .string (pathS k), .int .i64 (d : Int)] w fun e w' => ∃ v', e = .returned v' ∧ TreeAt w N v' (if btK k d = 0 then l else r) ∧ w = w' := by
  have H := hid (bitK_any (w := w) (k := k) hd)
  obtain ⟨g, vl, vr, rfl, _, h3, h4, h5⟩ := h
  obtain ⟨c0, c1, -, -, -, -, -⟩ := seven h3
  have HL := hid (And.intro h4 h5)
  obtain ⟨b, hb⟩ : ∃ b, b = btK k d := ⟨_, rfl⟩
  have b2 := btK_two k d
  rw [← hb] at H b2 ⊢
  obtain ⟨P, hP⟩ : ∃ P, P = pathS k := ⟨_, rfl⟩
  rw [← hP] at H ⊢
  clear h3 h4 h5 hb hP
  rcases b2 with rfl | rfl
  all_goals
    go_enter Tryd.func61, Tryd.ntmps61
    go_wp2_with fail
    refine H.out.mono ?_
    rintro e w1 ⟨rfl, rfl⟩
    go_wp2
    go_ret
  · exact ⟨vl, rfl, HL.out.1, rfl⟩
  · exact ⟨vr, rfl, HL.out.2, rfl⟩

/-- A tree that may be joined. -/
def Fine (t : Tr) : Prop := t.Wf ∧ t.count ≤ 1000000000

set_option maxRecDepth 100000 in
set_option maxHeartbeats 6400000 in
theorem join_nil_some {w : World} (hT : Table w) {gl gr : Nat} {l r : Tr} (hl' : Tree w (.pointer none) l) (hr' : Tree w (.pointer (some ⟨gr, 0, none⟩)) r) (hll : isLeaf l = false ∨ True) (hrl : isLeaf r = false ∨ False) (hc : 0 < l.count + r.count) (hcl : l.count ≤ 1000000000) (hcr : r.count ≤ 1000000000) :
    Calls Tryd.prog 70 #[.pointer none, .pointer (some ⟨gr, 0, none⟩)] w (Grew w (.node l r)) := by
  have TT := hid hT
  have LL := hid hl'
  have RR := hid hr'
  replace hrl : isLeaf r = false := by simpa using hrl
  clear hll
  have H1 := hid (len_any hl')
  have H2 := hid (len_any hr')
  obtain ⟨lc, hlc⟩ : ∃ lc, lc = l.count := ⟨_, rfl⟩
  obtain ⟨rc, hrc⟩ : ∃ rc, rc = r.count := ⟨_, rfl⟩
  rw [← hlc] at H1 hc hcl
  rw [← hrc] at H2 hc hcr
  have CN := hid (And.intro hlc hrc)
  have t0 : ((lc : Int) + (rc : Int) == 0) = false := by rw [beq_eq_false_iff_ne]; omega
  clear hlc hrc hT
  go_enter Tryd.func70, Tryd.ntmps70
  go_wp2_with fail
  refine H1.out.mono ?_
  rintro e w1 ⟨rfl, rfl⟩
  go_wp2_with fail
  refine H2.out.mono ?_
  rintro e w2 ⟨rfl, rfl⟩
  clear H1 H2
  have HS := hid (single_any hr')
  rw [hrl] at HS
  go_wp2_with fail
  refine HS.out.mono ?_
  rintro e w3 ⟨rfl, rfl⟩
  clear HS
  have HD := hid (digest_any TT.out LL.out)
  go_wp2_with fail
  refine HD.out.mono ?_
  rintro e w4 ⟨rfl, b4⟩
  replace TT := hid (TT.out.below b4)
  replace LL := hid (Tree.below LL.out b4)
  replace RR := hid (Tree.below RR.out b4)
  have BB := hid b4
  clear b4 HD
  have HD := hid (digest_any TT.out RR.out)
  go_wp2_with fail
  refine HD.out.mono ?_
  rintro e w5 ⟨rfl, b5⟩
  replace TT := hid (TT.out.below b5)
  replace LL := hid (Tree.below LL.out b5)
  replace RR := hid (Tree.below RR.out b5)
  replace BB := hid (below_then BB.out b5)
  clear b5 HD
  have HD := hid (node_any (a := digS l) (b := digS r) TT.out (by rw [digS_size]; omega) (by rw [digS_size]; omega))
  go_wp2_with fail
  refine HD.out.mono ?_
  rintro e w6 ⟨rfl, b6⟩
  replace LL := hid (Tree.below LL.out b6)
  replace RR := hid (Tree.below RR.out b6)
  replace BB := hid (below_then BB.out b6)
  clear b6 HD
  rw [digS_list, digS_list]
  obtain ⟨D, hD⟩ : ∃ D, D = dig (nodeB l.dig r.dig) := ⟨_, rfl⟩
  rw [← hD]
  obtain ⟨sn, hsn⟩ : ∃ sn, sn = lc + rc := ⟨_, rfl⟩
  have esn : (lc : Int) + (rc : Int) = (sn : Int) := by omega
  have al := below_alloc (Below.refl _ w6) (.cells #[.pointer none, .pointer (some ⟨gr, 0, none⟩), .string ⟨#[]⟩, .string ⟨#[]⟩, .slice none 0 0, .string D, .int .i64 (sn : Int)] 93)
  have gb := heap_alloc_new w6 (.cells #[.pointer none, .pointer (some ⟨gr, 0, none⟩), .string ⟨#[]⟩, .string ⟨#[]⟩, .slice none 0 0, .string D, .int .i64 (sn : Int)] 93)
  have FIN : Hid (Tree (w6.alloc (.cells #[.pointer none, .pointer (some ⟨gr, 0, none⟩), .string ⟨#[]⟩, .string ⟨#[]⟩, .slice none 0 0, .string D, .int .i64 (sn : Int)] 93)) (.pointer (some ⟨w6.heap.size, 0, none⟩)) (.node l r)) := hid (by
    refine ⟨w6.heap.size, .pointer none, .pointer (some ⟨gr, 0, none⟩), rfl, by simp, ?_, Tree.below LL.out al, Tree.below RR.out al⟩
    rw [gb, hD, hsn, CN.out.1, CN.out.2]
    rfl)
  have B7 := hid (below_then BB.out al)
  clear al gb hD hsn
  try rw [esn]
  clear esn
  go_wp2
  go_ret
  exact ⟨_, rfl, FIN.out, B7.out⟩

set_option maxRecDepth 100000 in
set_option maxHeartbeats 6400000 in
theorem join_some_nil {w : World} (hT : Table w) {gl gr : Nat} {l r : Tr} (hl' : Tree w (.pointer (some ⟨gl, 0, none⟩)) l) (hr' : Tree w (.pointer none) r) (hll : isLeaf l = false ∨ False) (hrl : isLeaf r = false ∨ True) (hc : 0 < l.count + r.count) (hcl : l.count ≤ 1000000000) (hcr : r.count ≤ 1000000000) :
    Calls Tryd.prog 70 #[.pointer (some ⟨gl, 0, none⟩), .pointer none] w (Grew w (.node l r)) := by
  have TT := hid hT
  have LL := hid hl'
  have RR := hid hr'
  clear hrl
  replace hll : isLeaf l = false := by simpa using hll
  have H1 := hid (len_any hl')
  have H2 := hid (len_any hr')
  obtain ⟨lc, hlc⟩ : ∃ lc, lc = l.count := ⟨_, rfl⟩
  obtain ⟨rc, hrc⟩ : ∃ rc, rc = r.count := ⟨_, rfl⟩
  rw [← hlc] at H1 hc hcl
  rw [← hrc] at H2 hc hcr
  have CN := hid (And.intro hlc hrc)
  have t0 : ((lc : Int) + (rc : Int) == 0) = false := by rw [beq_eq_false_iff_ne]; omega
  clear hlc hrc hT
  go_enter Tryd.func70, Tryd.ntmps70
  go_wp2_with fail
  refine H1.out.mono ?_
  rintro e w1 ⟨rfl, rfl⟩
  go_wp2_with fail
  refine H2.out.mono ?_
  rintro e w2 ⟨rfl, rfl⟩
  clear H1 H2
  have HS := hid (single_any hl')
  rw [hll] at HS
  go_wp2_with fail
  refine HS.out.mono ?_
  rintro e w3 ⟨rfl, rfl⟩
  clear HS
  have HD := hid (digest_any TT.out LL.out)
  go_wp2_with fail
  refine HD.out.mono ?_
  rintro e w4 ⟨rfl, b4⟩
  replace TT := hid (TT.out.below b4)
  replace LL := hid (Tree.below LL.out b4)
  replace RR := hid (Tree.below RR.out b4)
  have BB := hid b4
  clear b4 HD
  have HD := hid (digest_any TT.out RR.out)
  go_wp2_with fail
  refine HD.out.mono ?_
  rintro e w5 ⟨rfl, b5⟩
  replace TT := hid (TT.out.below b5)
  replace LL := hid (Tree.below LL.out b5)
  replace RR := hid (Tree.below RR.out b5)
  replace BB := hid (below_then BB.out b5)
  clear b5 HD
  have HD := hid (node_any (a := digS l) (b := digS r) TT.out (by rw [digS_size]; omega) (by rw [digS_size]; omega))
  go_wp2_with fail
  refine HD.out.mono ?_
  rintro e w6 ⟨rfl, b6⟩
  replace LL := hid (Tree.below LL.out b6)
  replace RR := hid (Tree.below RR.out b6)
  replace BB := hid (below_then BB.out b6)
  clear b6 HD
  rw [digS_list, digS_list]
  obtain ⟨D, hD⟩ : ∃ D, D = dig (nodeB l.dig r.dig) := ⟨_, rfl⟩
  rw [← hD]
  obtain ⟨sn, hsn⟩ : ∃ sn, sn = lc + rc := ⟨_, rfl⟩
  have esn : (lc : Int) + (rc : Int) = (sn : Int) := by omega
  have al := below_alloc (Below.refl _ w6) (.cells #[.pointer (some ⟨gl, 0, none⟩), .pointer none, .string ⟨#[]⟩, .string ⟨#[]⟩, .slice none 0 0, .string D, .int .i64 (sn : Int)] 93)
  have gb := heap_alloc_new w6 (.cells #[.pointer (some ⟨gl, 0, none⟩), .pointer none, .string ⟨#[]⟩, .string ⟨#[]⟩, .slice none 0 0, .string D, .int .i64 (sn : Int)] 93)
  have FIN : Hid (Tree (w6.alloc (.cells #[.pointer (some ⟨gl, 0, none⟩), .pointer none, .string ⟨#[]⟩, .string ⟨#[]⟩, .slice none 0 0, .string D, .int .i64 (sn : Int)] 93)) (.pointer (some ⟨w6.heap.size, 0, none⟩)) (.node l r)) := hid (by
    refine ⟨w6.heap.size, .pointer (some ⟨gl, 0, none⟩), .pointer none, rfl, by simp, ?_, Tree.below LL.out al, Tree.below RR.out al⟩
    rw [gb, hD, hsn, CN.out.1, CN.out.2]
    rfl)
  have B7 := hid (below_then BB.out al)
  clear al gb hD hsn
  try rw [esn]
  clear esn
  go_wp2
  go_ret
  exact ⟨_, rfl, FIN.out, B7.out⟩

set_option maxRecDepth 100000 in
set_option maxHeartbeats 6400000 in
theorem join_some {w : World} (hT : Table w) {gl gr : Nat} {l r : Tr} (hl' : Tree w (.pointer (some ⟨gl, 0, none⟩)) l) (hr' : Tree w (.pointer (some ⟨gr, 0, none⟩)) r) (hll : isLeaf l = false ∨ True) (hrl : isLeaf r = false ∨ True) (hc : 0 < l.count + r.count) (hcl : l.count ≤ 1000000000) (hcr : r.count ≤ 1000000000) :
    Calls Tryd.prog 70 #[.pointer (some ⟨gl, 0, none⟩), .pointer (some ⟨gr, 0, none⟩)] w (Grew w (.node l r)) := by
  have TT := hid hT
  have LL := hid hl'
  have RR := hid hr'
  clear hrl
  clear hll
  have H1 := hid (len_any hl')
  have H2 := hid (len_any hr')
  obtain ⟨lc, hlc⟩ : ∃ lc, lc = l.count := ⟨_, rfl⟩
  obtain ⟨rc, hrc⟩ : ∃ rc, rc = r.count := ⟨_, rfl⟩
  rw [← hlc] at H1 hc hcl
  rw [← hrc] at H2 hc hcr
  have CN := hid (And.intro hlc hrc)
  have t0 : ((lc : Int) + (rc : Int) == 0) = false := by rw [beq_eq_false_iff_ne]; omega
  clear hlc hrc hT
  go_enter Tryd.func70, Tryd.ntmps70
  go_wp2_with fail
  refine H1.out.mono ?_
  rintro e w1 ⟨rfl, rfl⟩
  go_wp2_with fail
  refine H2.out.mono ?_
  rintro e w2 ⟨rfl, rfl⟩
  clear H1 H2
  have HD := hid (digest_any TT.out LL.out)
  go_wp2_with fail
  refine HD.out.mono ?_
  rintro e w4 ⟨rfl, b4⟩
  replace TT := hid (TT.out.below b4)
  replace LL := hid (Tree.below LL.out b4)
  replace RR := hid (Tree.below RR.out b4)
  have BB := hid b4
  clear b4 HD
  have HD := hid (digest_any TT.out RR.out)
  go_wp2_with fail
  refine HD.out.mono ?_
  rintro e w5 ⟨rfl, b5⟩
  replace TT := hid (TT.out.below b5)
  replace LL := hid (Tree.below LL.out b5)
  replace RR := hid (Tree.below RR.out b5)
  replace BB := hid (below_then BB.out b5)
  clear b5 HD
  have HD := hid (node_any (a := digS l) (b := digS r) TT.out (by rw [digS_size]; omega) (by rw [digS_size]; omega))
  go_wp2_with fail
  refine HD.out.mono ?_
  rintro e w6 ⟨rfl, b6⟩
  replace LL := hid (Tree.below LL.out b6)
  replace RR := hid (Tree.below RR.out b6)
  replace BB := hid (below_then BB.out b6)
  clear b6 HD
  rw [digS_list, digS_list]
  obtain ⟨D, hD⟩ : ∃ D, D = dig (nodeB l.dig r.dig) := ⟨_, rfl⟩
  rw [← hD]
  obtain ⟨sn, hsn⟩ : ∃ sn, sn = lc + rc := ⟨_, rfl⟩
  have esn : (lc : Int) + (rc : Int) = (sn : Int) := by omega
  have al := below_alloc (Below.refl _ w6) (.cells #[.pointer (some ⟨gl, 0, none⟩), .pointer (some ⟨gr, 0, none⟩), .string ⟨#[]⟩, .string ⟨#[]⟩, .slice none 0 0, .string D, .int .i64 (sn : Int)] 93)
  have gb := heap_alloc_new w6 (.cells #[.pointer (some ⟨gl, 0, none⟩), .pointer (some ⟨gr, 0, none⟩), .string ⟨#[]⟩, .string ⟨#[]⟩, .slice none 0 0, .string D, .int .i64 (sn : Int)] 93)
  have FIN : Hid (Tree (w6.alloc (.cells #[.pointer (some ⟨gl, 0, none⟩), .pointer (some ⟨gr, 0, none⟩), .string ⟨#[]⟩, .string ⟨#[]⟩, .slice none 0 0, .string D, .int .i64 (sn : Int)] 93)) (.pointer (some ⟨w6.heap.size, 0, none⟩)) (.node l r)) := hid (by
    refine ⟨w6.heap.size, .pointer (some ⟨gl, 0, none⟩), .pointer (some ⟨gr, 0, none⟩), rfl, by simp, ?_, Tree.below LL.out al, Tree.below RR.out al⟩
    rw [gb, hD, hsn, CN.out.1, CN.out.2]
    rfl)
  have B7 := hid (below_then BB.out al)
  clear al gb hD hsn
  try rw [esn]
  clear esn
  go_wp2
  go_ret
  exact ⟨_, rfl, FIN.out, B7.out⟩

set_option maxHeartbeats 3200000 in
theorem join_nils {w : World} : Calls Tryd.prog 70 #[.pointer none, .pointer none] w (Grew w .nil) := by
  have H1 : Hid (Calls Tryd.prog 75 #[.pointer none] w fun e w' => e = .returned (.int .i64 0) ∧ w = w') := hid (len_any (Tree.nil w))
  have HS := hid (single_nil (w := w))
  go_enter Tryd.func70, Tryd.ntmps70
  go_wp2_with fail
  refine H1.out.mono ?_
  rintro e w1 ⟨rfl, rfl⟩
  go_wp2_with fail
  refine H1.out.mono ?_
  rintro e w1 ⟨rfl, rfl⟩
  go_wp2_with fail
  refine HS.out.mono ?_
  rintro e w1 ⟨rfl, rfl⟩
  go_wp2_with fail
  refine HS.out.mono ?_
  rintro e w1 ⟨rfl, rfl⟩
  go_wp2
  go_ret
  exact ⟨_, rfl, Tree.nil w, Below.refl _ _⟩
set_option maxHeartbeats 3200000 in
theorem join_nil_leaf {w : World} {gr : Nat} {x : Itm} (hr : Tree w (.pointer (some ⟨gr, 0, none⟩)) (.leaf x)) : Calls Tryd.prog 70 #[.pointer none, .pointer (some ⟨gr, 0, none⟩)] w (Grew w (.leaf x)) := by
  have H1 : Hid (Calls Tryd.prog 75 #[.pointer none] w fun e w' => e = .returned (.int .i64 0) ∧ w = w') := hid (len_any (Tree.nil w))
  have H2 := hid (len_any hr)
  have HS := hid (single_leaf hr)
  have RR := hid hr
  clear hr
  go_enter Tryd.func70, Tryd.ntmps70
  go_wp2_with fail
  refine H1.out.mono ?_
  rintro e w1 ⟨rfl, rfl⟩
  go_wp2_with fail
  refine H2.out.mono ?_
  rintro e w1 ⟨rfl, rfl⟩
  go_wp2_with fail
  refine HS.out.mono ?_
  rintro e w1 ⟨rfl, rfl⟩
  go_wp2
  go_ret
  exact ⟨_, rfl, RR.out, Below.refl _ _⟩
set_option maxHeartbeats 3200000 in
theorem join_leaf_nil {w : World} {gl : Nat} {x : Itm} (hl : Tree w (.pointer (some ⟨gl, 0, none⟩)) (.leaf x)) : Calls Tryd.prog 70 #[.pointer (some ⟨gl, 0, none⟩), .pointer none] w (Grew w (.leaf x)) := by
  have H1 : Hid (Calls Tryd.prog 75 #[.pointer none] w fun e w' => e = .returned (.int .i64 0) ∧ w = w') := hid (len_any (Tree.nil w))
  have H2 := hid (len_any hl)
  have HS := hid (single_leaf hl)
  have RR := hid hl
  clear hl
  go_enter Tryd.func70, Tryd.ntmps70
  go_wp2_with fail
  refine H2.out.mono ?_
  rintro e w1 ⟨rfl, rfl⟩
  go_wp2_with fail
  refine H1.out.mono ?_
  rintro e w1 ⟨rfl, rfl⟩
  go_wp2_with fail
  refine HS.out.mono ?_
  rintro e w1 ⟨rfl, rfl⟩
  go_wp2
  go_ret
  exact ⟨_, rfl, RR.out, Below.refl _ _⟩
theorem joinT_any {w : World} (hT : Table w) {vl vr : Value} {l r : Tr} (hl : Tree w vl l) (hr : Tree w vr r) (fl : Fine l) (fr : Fine r) :
    Calls Tryd.prog 70 #[vl, vr] w (Grew w (joinT l r)) := by
  have pos : ∀ t : Tr, t.Wf → t ≠ .nil → 0 < t.count := by
    intro t ht hn
    cases t with
    | nil => exact absurd rfl hn
    | leaf x => exact Nat.one_pos
    | node a b => exact ht.1
  rcases TreeAt.ptr hl with ⟨rfl, rfl⟩ | ⟨gl, rfl, nl⟩
  · rcases TreeAt.ptr hr with ⟨rfl, rfl⟩ | ⟨gr, rfl, nr⟩
    · exact join_nils
    · cases r with
      | nil => exact absurd rfl nr
      | leaf x => exact join_nil_leaf hr
      | node a b => exact join_nil_some (gl := 0) hT hl hr (.inl rfl) (.inl rfl) (by have := pos _ fr.1 nr; omega) fl.2 fr.2
  · rcases TreeAt.ptr hr with ⟨rfl, rfl⟩ | ⟨gr, rfl, nr⟩
    · cases l with
      | nil => exact absurd rfl nl
      | leaf x => exact join_leaf_nil hl
      | node a b => exact join_some_nil (gr := 0) hT hl hr (.inl rfl) (.inl rfl) (by have := pos _ fl.1 nl; omega) fl.2 fr.2
    · have e : joinT l r = .node l r := by
        cases l with
        | nil => exact absurd rfl nl
        | leaf x => cases r with
          | nil => exact absurd rfl nr
          | leaf y => rfl
          | node a b => rfl
        | node a b => rfl
      rw [e]
      exact join_some hT hl hr (.inr trivial) (.inr trivial) (by have := pos _ fl.1 nl; omega) fl.2 fr.2

set_option maxHeartbeats 3200000 in
theorem with_any {w : World} (hT : Table w) {v vx : Value} {l r x : Tr} {k : ByteArray} {d : Nat} (hd : d ≤ 1000000) (h : Tree w v (.node l r)) (hx : Tree w vx x) (fl : Fine l) (fr : Fine r) (fx : Fine x) :
    Calls Tryd.prog 60 #[v, .string (pathS k), .int .i64 (d : Int), vx] w (Grew w (if btK k d = 0 then joinT x r else joinT l x)) := by
  have H := hid (bitK_any (w := w) (k := k) hd)
  obtain ⟨g, vl, vr, rfl, _, h3, h4, h5⟩ := h
  obtain ⟨c0, c1, -, -, -, -, -⟩ := seven h3
  have J1 := hid (joinT_any hT hx h5 fx fr)
  have J2 := hid (joinT_any hT h4 hx fl fx)
  obtain ⟨b, hb⟩ : ∃ b, b = btK k d := ⟨_, rfl⟩
  have b2 := btK_two k d
  rw [← hb] at H b2 ⊢
  obtain ⟨P, hP⟩ : ∃ P, P = pathS k := ⟨_, rfl⟩
  rw [← hP] at H ⊢
  clear h3 h4 h5 hb hP hT hx
  rcases b2 with rfl | rfl
  · go_enter Tryd.func60, Tryd.ntmps60
    go_wp2_with fail
    refine H.out.mono ?_
    rintro e w1 ⟨rfl, rfl⟩
    go_wp2_with fail
    refine J1.out.mono ?_
    rintro e w1 ⟨v', rfl, t1, b1⟩
    go_wp2
    go_ret
    exact ⟨v', rfl, t1, b1⟩
  · go_enter Tryd.func60, Tryd.ntmps60
    go_wp2_with fail
    refine H.out.mono ?_
    rintro e w1 ⟨rfl, rfl⟩
    go_wp2_with fail
    refine J2.out.mono ?_
    rintro e w1 ⟨v', rfl, t1, b1⟩
    go_wp2
    go_ret
    exact ⟨v', rfl, t1, b1⟩
end Go.Proofs.YtmbgfjcmdolggaaDoor

/- The walks of apart, put, del. -/
namespace Go.Proofs.YtmbgfjcmdolggaaDoor
open Go.RowKit PrintLast

theorem fine_tree {f : Nat} {l : List Itm} (hf : f ≤ 256) (hg : Good f l) (hl : l.length ≤ 1000000000) : Fine (treeF f l) := ⟨treeF_wf f hf hg, by rw [treeF_count f hf hg]; exact hl⟩
theorem bit_is {k : ByteArray} {d : Nat} {b : Int} (hd : d ≤ 1000000) (h : btK k d = b) : ∀ w : World, Calls Tryd.prog 48 #[.string (pathS k), .int .i64 (d : Int)] w fun e w' => e = .returned (.int .i64 b) ∧ w = w' := fun w => by
  have := bitK_any (w := w) (k := k) hd
  rw [h] at this
  exact this
theorem Grew.cast {w w' : World} {t t' : Tr} {e : Ending} (h : Grew w t e w') (ht : t = t') : Grew w t' e w' := ht ▸ h
theorem halfI_length_le (l : List Itm) (d : Nat) (b : Int) : (halfI l d b).length ≤ l.length := List.length_filter_le _ _

set_option maxRecDepth 100000 in
set_option maxHeartbeats 12800000 in
theorem apart_walk (f : Nat) : ∀ (w : World) (va vb : Value) (a b : Itm) (d : Nat), Table w → Tree w va (.leaf a) → Tree w vb (.leaf b) → Good f [a, b] → d + f = 256 →
    Calls Tryd.prog 59 #[va, vb, .int .i64 (d : Int)] w (Grew w (treeF f [a, b])) := by
  induction f with
  | zero =>
    intro w va vb a b d _ _ _ hg _
    have := hg.few
    simp at this
  | succ f ih =>
    intro w va vb a b d hT ha hb hg hd
    have hdf : 255 - f = d := by omega
    have J := join_tree hg (by omega)
    rw [hdf, half_two, half_two] at J
    have g0 := hg.half 0 (by omega)
    have g1 := hg.half 1 (by omega)
    rw [hdf, half_two] at g0 g1
    have TT := hid (hT.below (Below.refl _ w).drew)
    have AA := hid (Tree.below ha (Below.refl _ w).drew)
    have BB := hid (Tree.below hb (Below.refl _ w).drew)
    obtain ⟨ga, Ba, da, rfl, _, h3a, _⟩ := ha
    obtain ⟨gb, Bb, db, rfl, _, h3b, _⟩ := hb
    obtain ⟨-, -, ca, -, -, -, -⟩ := seven h3a
    obtain ⟨-, -, cb, -, -, -, -⟩ := seven h3b
    have hd2 : d ≤ 255 := by omega
    have hd' : (d + 1) + f = 256 := by omega
    have IH := hid ih
    have HD' := hid hd'
    clear hT h3a h3b hdf hd hd' ih
    rcases btK_two a.key d with h1 | h1 <;> rcases btK_two b.key d with h2 | h2
    · have HA := hid (bit_is (by omega) h1)
      have HB := hid (bit_is (by omega) h2)
      simp only [h1, h2, if_true, List.cons_append, List.nil_append, show (0 : Int) ≠ 1 by decide, show (1 : Int) ≠ 0 by decide, if_false, List.append_nil] at J g0 g1
      have HJ := hid J
      have G0 := hid g0
      have G1 := hid g1
      obtain ⟨pa, hpa⟩ : ∃ p, p = pathS a.key := ⟨_, rfl⟩
      obtain ⟨pb, hpb⟩ : ∃ p, p = pathS b.key := ⟨_, rfl⟩
      rw [← hpa] at ca HA
      rw [← hpb] at cb HB
      clear h1 h2 J g0 g1 hpa hpb
      go_enter Tryd.func59, Tryd.ntmps59
      go_wp2
      refine start_ (n := 14) (S := fun w' => w'.cell? ⟨ga, 2, none⟩ = some (.string pa) ∧ w'.cell? ⟨gb, 2, none⟩ = some (.string pb)) (ds := []) #[false, false, false, false, false, false, false, false, false, false, false, false, false, false] (by kernel_rfl) rfl rfl ⟨ca, cb⟩ (fun hHeld => ?_)
      refine pure_ (i := 0) (N := some 11) (v := ?_) (a' := ?_) #[true, false, false, false, false, false, false, false, false, false, false, false, false, false] rfl rfl (by kernel_rfl) (fun _ _ _ h => h) (Or.inl ⟨by rfl, ?_⟩) ?_ ?_
      rotate_left
      · intro w'
        go_simp
        with_reducible rfl
      rotate_left
      · simp only [Act.put, List.setIfInBounds_toArray, List.set_cons_zero, List.set_cons_succ, i64_w, i32_w]
        rfl
      refine pure_ (i := 1) (N := some 12) (v := ?_) (a' := ?_) #[true, true, false, false, false, false, false, false, false, false, false, false, false, false] rfl rfl (by kernel_rfl) (fun _ _ _ h => h) (Or.inl ⟨by rfl, ?_⟩) ?_ ?_
      rotate_left
      · intro w'
        go_simp
        with_reducible rfl
      rotate_left
      · simp only [Act.put, List.setIfInBounds_toArray, List.set_cons_zero, List.set_cons_succ, i64_w, i32_w]
        rfl
      refine pure_ (i := 2) (N := some 13) (v := ?_) (a' := ?_) #[true, true, true, false, false, false, false, false, false, false, false, false, false, false] rfl rfl (by kernel_rfl) (fun _ _ _ h => h) (Or.inl ⟨by rfl, ?_⟩) ?_ ?_
      rotate_left
      · intro w'
        go_simp
        with_reducible rfl
      rotate_left
      · simp only [Act.put, List.setIfInBounds_toArray, List.set_cons_zero, List.set_cons_succ, i64_w, i32_w]
        rfl
      refine pure_ (i := 4) (N := some 15) (v := ?_) (a' := ?_) #[true, true, true, false, true, false, false, false, false, false, false, false, false, false] rfl rfl (by kernel_rfl) (fun _ _ _ h => h) (Or.inl ⟨by rfl, ?_⟩) ?_ ?_
      rotate_left
      · intro w'
        go_simp
        with_reducible rfl
      rotate_left
      · simp only [Act.put, List.setIfInBounds_toArray, List.set_cons_zero, List.set_cons_succ, i64_w, i32_w]
        rfl
      refine pure_ (i := 6) (N := some 17) (v := ?_) (a' := ?_) #[true, true, true, false, true, false, true, false, false, false, false, false, false, false] rfl rfl (by kernel_rfl) (fun _ _ _ h => h) (Or.inl ⟨by rfl, ?_⟩) ?_ ?_
      rotate_left
      · intro w'
        go_simp
        with_reducible rfl
      rotate_left
      · simp only [Act.put, List.setIfInBounds_toArray, List.set_cons_zero, List.set_cons_succ, i64_w, i32_w]
        rfl
      refine pure_ (i := 7) (N := some 18) (v := ?_) (a' := ?_) #[true, true, true, false, true, false, true, true, false, false, false, false, false, false] rfl rfl (by kernel_rfl) (fun _ _ _ h => h) (Or.inl ⟨by rfl, ?_⟩) ?_ ?_
      rotate_left
      · intro w'
        go_simp
        with_reducible rfl
      rotate_left
      · simp only [Act.put, List.setIfInBounds_toArray, List.set_cons_zero, List.set_cons_succ, i64_w, i32_w]
        rfl
      refine pure_ (i := 8) (N := some 19) (v := ?_) (a' := ?_) #[true, true, true, false, true, false, true, true, true, false, false, false, false, false] rfl rfl (by kernel_rfl) (fun _ _ _ h => h) (Or.inl ⟨by rfl, ?_⟩) ?_ ?_
      rotate_left
      · intro w'
        go_simp
        with_reducible rfl
      rotate_left
      · simp only [Act.put, List.setIfInBounds_toArray, List.set_cons_zero, List.set_cons_succ, i64_w, i32_w]
        rfl
      refine pure_ (i := 10) (N := some 21) (v := ?_) (a' := ?_) #[true, true, true, false, true, false, true, true, true, false, true, false, false, false] rfl rfl (by kernel_rfl) (fun _ _ _ h => h) (Or.inl ⟨by rfl, ?_⟩) ?_ ?_
      rotate_left
      · intro w'
        go_simp
        with_reducible rfl
      rotate_left
      · simp only [Act.put, List.setIfInBounds_toArray, List.set_cons_zero, List.set_cons_succ, i64_w, i32_w]
        rfl
      refine take_ (i := 3) (N := some 14) (v := ?_) (a' := ?_) #[true, true, true, true, true, false, true, true, true, false, true, false, false, false] rfl rfl (by kernel_rfl) (fun _ _ _ h => h) (Or.inl ⟨by rfl, ?_⟩) hHeld ?_ ?_
      rotate_left
      · rintro w' ⟨s0, s1⟩
        go_simp
        with_reducible rfl
      rotate_left
      · simp only [Act.put, List.setIfInBounds_toArray, List.set_cons_zero, List.set_cons_succ, i64_w, i32_w]
        rfl
      refine take_ (i := 9) (N := some 20) (v := ?_) (a' := ?_) #[true, true, true, true, true, false, true, true, true, true, true, false, false, false] rfl rfl (by kernel_rfl) (fun _ _ _ h => h) (Or.inl ⟨by rfl, ?_⟩) hHeld ?_ ?_
      rotate_left
      · rintro w' ⟨s0, s1⟩
        go_simp
        with_reducible rfl
      rotate_left
      · simp only [Act.put, List.setIfInBounds_toArray, List.set_cons_zero, List.set_cons_succ, i64_w, i32_w]
        rfl
      refine one_ (i := 5) (N := some 16) #[true, true, true, true, true, true, true, true, true, true, true, false, false, false] rfl rfl (by kernel_rfl) (by decide) (fun K hK => ?_)
      refine goes_ Tryd.func48 (by kernel_rfl) rfl #[.string pa, .int .i64 (d : Int)] (by rfl) rfl rfl (by simp only [List.map_toArray, List.map_cons, List.map_nil]; rfl) ?_
      with_reducible refine ((HA.out _)).mono ?_
      rintro e' w1 ⟨rfl, rfl⟩
      refine ⟨_, rfl, ?_⟩
      refine hK.out _ _ ⟨hHeld.1, hHeld.2⟩ (fun hHeld => ?_)
      clear hK K
      refine norm_ (a' := ?_) ?_ ?_
      rotate_left
      · show Act.put _ (some 16) _ = _
        simp only [Act.put, List.setIfInBounds_toArray, List.set_cons_zero, List.set_cons_succ, i64_w, i32_w]
        rfl
      refine one_ (i := 11) (N := some 22) #[true, true, true, true, true, true, true, true, true, true, true, true, false, false] rfl rfl (by kernel_rfl) (by decide) (fun K hK => ?_)
      refine goes_ Tryd.func48 (by kernel_rfl) rfl #[.string pb, .int .i64 (d : Int)] (by rfl) rfl rfl (by simp only [List.map_toArray, List.map_cons, List.map_nil]; rfl) ?_
      with_reducible refine ((HB.out _)).mono ?_
      rintro e' w1 ⟨rfl, rfl⟩
      refine ⟨_, rfl, ?_⟩
      refine hK.out _ _ ⟨hHeld.1, hHeld.2⟩ (fun hHeld => ?_)
      clear hK K
      refine norm_ (a' := ?_) ?_ ?_
      rotate_left
      · show Act.put _ (some 22) _ = _
        simp only [Act.put, List.setIfInBounds_toArray, List.set_cons_zero, List.set_cons_succ, i64_w, i32_w]
        rfl
      refine pure_ (i := 12) (N := some 7) (v := ?_) (a' := ?_) #[true, true, true, true, true, true, true, true, true, true, true, true, true, false] rfl rfl (by kernel_rfl) (fun _ _ _ h => h) (Or.inl ⟨by rfl, ?_⟩) ?_ ?_
      rotate_left
      · intro w'
        go_simp
        with_reducible rfl
      rotate_left
      · simp only [Act.put, List.setIfInBounds_toArray, List.set_cons_zero, List.set_cons_succ, i64_w, i32_w]
        rfl
      refine pure_ (i := 13) (N := some 8) (v := ?_) (a' := ?_) #[true, true, true, true, true, true, true, true, true, true, true, true, true, true] rfl rfl (by kernel_rfl) (fun _ _ _ h => h) (Or.inl ⟨by rfl, ?_⟩) ?_ ?_
      rotate_left
      · intro w'
        go_simp
        with_reducible rfl
      rotate_left
      · simp only [Act.put, List.setIfInBounds_toArray, List.set_cons_zero, List.set_cons_succ, i64_w, i32_w]
        rfl
      refine done_ (by kernel_rfl) ?_
      clear HA HB ca cb
      have R0 := IH.out _ _ _ _ _ _ TT.out AA.out BB.out G0.out HD'.out
      rw [show ((d + 1 : Nat) : Int) = (d : Int) + 1 by omega] at R0
      have R := hid R0
      clear R0
      go_wp2_with fail
      refine R.out.mono ?_
      rintro e w2 ⟨v2, rfl, t2, b2⟩
      have TL : Tree w2 v2 (treeF f [a, b]) := t2
      have TR : Tree w2 (.pointer none) (treeF f []) := by rw [treeF_nil]; exact Tree.nil w2
      have J2 := hid (joinT_any (TT.out.below b2) TL TR (fine_tree (by have := HD'.out; omega) G0.out (by simp)) (fine_tree (by have := HD'.out; omega) G1.out (by simp)))
      have BW := hid (below_then (show Below w.heap.size w w.drew from (Below.refl _ _).drew) b2)
      clear R t2 b2 TL TR
      go_wp2_with fail
      refine J2.out.mono ?_
      rintro e w3 ⟨v3, rfl, t3, b3⟩
      rw [HJ.out] at t3
      have B3 := below_then BW.out b3
      clear J2
      go_wp2
      go_ret
      exact ⟨v3, rfl, t3, B3⟩
    · have HA := hid (bit_is (by omega) h1)
      have HB := hid (bit_is (by omega) h2)
      simp only [h1, h2, if_true, List.cons_append, List.nil_append, show (0 : Int) ≠ 1 by decide, show (1 : Int) ≠ 0 by decide, if_false, List.append_nil] at J g0 g1
      have HJ := hid J
      have G0 := hid g0
      have G1 := hid g1
      obtain ⟨pa, hpa⟩ : ∃ p, p = pathS a.key := ⟨_, rfl⟩
      obtain ⟨pb, hpb⟩ : ∃ p, p = pathS b.key := ⟨_, rfl⟩
      rw [← hpa] at ca HA
      rw [← hpb] at cb HB
      clear h1 h2 J g0 g1 hpa hpb
      go_enter Tryd.func59, Tryd.ntmps59
      go_wp2
      refine start_ (n := 14) (S := fun w' => w'.cell? ⟨ga, 2, none⟩ = some (.string pa) ∧ w'.cell? ⟨gb, 2, none⟩ = some (.string pb)) (ds := []) #[false, false, false, false, false, false, false, false, false, false, false, false, false, false] (by kernel_rfl) rfl rfl ⟨ca, cb⟩ (fun hHeld => ?_)
      refine pure_ (i := 0) (N := some 11) (v := ?_) (a' := ?_) #[true, false, false, false, false, false, false, false, false, false, false, false, false, false] rfl rfl (by kernel_rfl) (fun _ _ _ h => h) (Or.inl ⟨by rfl, ?_⟩) ?_ ?_
      rotate_left
      · intro w'
        go_simp
        with_reducible rfl
      rotate_left
      · simp only [Act.put, List.setIfInBounds_toArray, List.set_cons_zero, List.set_cons_succ, i64_w, i32_w]
        rfl
      refine pure_ (i := 1) (N := some 12) (v := ?_) (a' := ?_) #[true, true, false, false, false, false, false, false, false, false, false, false, false, false] rfl rfl (by kernel_rfl) (fun _ _ _ h => h) (Or.inl ⟨by rfl, ?_⟩) ?_ ?_
      rotate_left
      · intro w'
        go_simp
        with_reducible rfl
      rotate_left
      · simp only [Act.put, List.setIfInBounds_toArray, List.set_cons_zero, List.set_cons_succ, i64_w, i32_w]
        rfl
      refine pure_ (i := 2) (N := some 13) (v := ?_) (a' := ?_) #[true, true, true, false, false, false, false, false, false, false, false, false, false, false] rfl rfl (by kernel_rfl) (fun _ _ _ h => h) (Or.inl ⟨by rfl, ?_⟩) ?_ ?_
      rotate_left
      · intro w'
        go_simp
        with_reducible rfl
      rotate_left
      · simp only [Act.put, List.setIfInBounds_toArray, List.set_cons_zero, List.set_cons_succ, i64_w, i32_w]
        rfl
      refine pure_ (i := 4) (N := some 15) (v := ?_) (a' := ?_) #[true, true, true, false, true, false, false, false, false, false, false, false, false, false] rfl rfl (by kernel_rfl) (fun _ _ _ h => h) (Or.inl ⟨by rfl, ?_⟩) ?_ ?_
      rotate_left
      · intro w'
        go_simp
        with_reducible rfl
      rotate_left
      · simp only [Act.put, List.setIfInBounds_toArray, List.set_cons_zero, List.set_cons_succ, i64_w, i32_w]
        rfl
      refine pure_ (i := 6) (N := some 17) (v := ?_) (a' := ?_) #[true, true, true, false, true, false, true, false, false, false, false, false, false, false] rfl rfl (by kernel_rfl) (fun _ _ _ h => h) (Or.inl ⟨by rfl, ?_⟩) ?_ ?_
      rotate_left
      · intro w'
        go_simp
        with_reducible rfl
      rotate_left
      · simp only [Act.put, List.setIfInBounds_toArray, List.set_cons_zero, List.set_cons_succ, i64_w, i32_w]
        rfl
      refine pure_ (i := 7) (N := some 18) (v := ?_) (a' := ?_) #[true, true, true, false, true, false, true, true, false, false, false, false, false, false] rfl rfl (by kernel_rfl) (fun _ _ _ h => h) (Or.inl ⟨by rfl, ?_⟩) ?_ ?_
      rotate_left
      · intro w'
        go_simp
        with_reducible rfl
      rotate_left
      · simp only [Act.put, List.setIfInBounds_toArray, List.set_cons_zero, List.set_cons_succ, i64_w, i32_w]
        rfl
      refine pure_ (i := 8) (N := some 19) (v := ?_) (a' := ?_) #[true, true, true, false, true, false, true, true, true, false, false, false, false, false] rfl rfl (by kernel_rfl) (fun _ _ _ h => h) (Or.inl ⟨by rfl, ?_⟩) ?_ ?_
      rotate_left
      · intro w'
        go_simp
        with_reducible rfl
      rotate_left
      · simp only [Act.put, List.setIfInBounds_toArray, List.set_cons_zero, List.set_cons_succ, i64_w, i32_w]
        rfl
      refine pure_ (i := 10) (N := some 21) (v := ?_) (a' := ?_) #[true, true, true, false, true, false, true, true, true, false, true, false, false, false] rfl rfl (by kernel_rfl) (fun _ _ _ h => h) (Or.inl ⟨by rfl, ?_⟩) ?_ ?_
      rotate_left
      · intro w'
        go_simp
        with_reducible rfl
      rotate_left
      · simp only [Act.put, List.setIfInBounds_toArray, List.set_cons_zero, List.set_cons_succ, i64_w, i32_w]
        rfl
      refine take_ (i := 3) (N := some 14) (v := ?_) (a' := ?_) #[true, true, true, true, true, false, true, true, true, false, true, false, false, false] rfl rfl (by kernel_rfl) (fun _ _ _ h => h) (Or.inl ⟨by rfl, ?_⟩) hHeld ?_ ?_
      rotate_left
      · rintro w' ⟨s0, s1⟩
        go_simp
        with_reducible rfl
      rotate_left
      · simp only [Act.put, List.setIfInBounds_toArray, List.set_cons_zero, List.set_cons_succ, i64_w, i32_w]
        rfl
      refine take_ (i := 9) (N := some 20) (v := ?_) (a' := ?_) #[true, true, true, true, true, false, true, true, true, true, true, false, false, false] rfl rfl (by kernel_rfl) (fun _ _ _ h => h) (Or.inl ⟨by rfl, ?_⟩) hHeld ?_ ?_
      rotate_left
      · rintro w' ⟨s0, s1⟩
        go_simp
        with_reducible rfl
      rotate_left
      · simp only [Act.put, List.setIfInBounds_toArray, List.set_cons_zero, List.set_cons_succ, i64_w, i32_w]
        rfl
      refine one_ (i := 5) (N := some 16) #[true, true, true, true, true, true, true, true, true, true, true, false, false, false] rfl rfl (by kernel_rfl) (by decide) (fun K hK => ?_)
      refine goes_ Tryd.func48 (by kernel_rfl) rfl #[.string pa, .int .i64 (d : Int)] (by rfl) rfl rfl (by simp only [List.map_toArray, List.map_cons, List.map_nil]; rfl) ?_
      with_reducible refine ((HA.out _)).mono ?_
      rintro e' w1 ⟨rfl, rfl⟩
      refine ⟨_, rfl, ?_⟩
      refine hK.out _ _ ⟨hHeld.1, hHeld.2⟩ (fun hHeld => ?_)
      clear hK K
      refine norm_ (a' := ?_) ?_ ?_
      rotate_left
      · show Act.put _ (some 16) _ = _
        simp only [Act.put, List.setIfInBounds_toArray, List.set_cons_zero, List.set_cons_succ, i64_w, i32_w]
        rfl
      refine one_ (i := 11) (N := some 22) #[true, true, true, true, true, true, true, true, true, true, true, true, false, false] rfl rfl (by kernel_rfl) (by decide) (fun K hK => ?_)
      refine goes_ Tryd.func48 (by kernel_rfl) rfl #[.string pb, .int .i64 (d : Int)] (by rfl) rfl rfl (by simp only [List.map_toArray, List.map_cons, List.map_nil]; rfl) ?_
      with_reducible refine ((HB.out _)).mono ?_
      rintro e' w1 ⟨rfl, rfl⟩
      refine ⟨_, rfl, ?_⟩
      refine hK.out _ _ ⟨hHeld.1, hHeld.2⟩ (fun hHeld => ?_)
      clear hK K
      refine norm_ (a' := ?_) ?_ ?_
      rotate_left
      · show Act.put _ (some 22) _ = _
        simp only [Act.put, List.setIfInBounds_toArray, List.set_cons_zero, List.set_cons_succ, i64_w, i32_w]
        rfl
      refine pure_ (i := 12) (N := some 7) (v := ?_) (a' := ?_) #[true, true, true, true, true, true, true, true, true, true, true, true, true, false] rfl rfl (by kernel_rfl) (fun _ _ _ h => h) (Or.inl ⟨by rfl, ?_⟩) ?_ ?_
      rotate_left
      · intro w'
        go_simp
        with_reducible rfl
      rotate_left
      · simp only [Act.put, List.setIfInBounds_toArray, List.set_cons_zero, List.set_cons_succ, i64_w, i32_w]
        rfl
      refine pure_ (i := 13) (N := some 8) (v := ?_) (a' := ?_) #[true, true, true, true, true, true, true, true, true, true, true, true, true, true] rfl rfl (by kernel_rfl) (fun _ _ _ h => h) (Or.inl ⟨by rfl, ?_⟩) ?_ ?_
      rotate_left
      · intro w'
        go_simp
        with_reducible rfl
      rotate_left
      · simp only [Act.put, List.setIfInBounds_toArray, List.set_cons_zero, List.set_cons_succ, i64_w, i32_w]
        rfl
      refine done_ (by kernel_rfl) ?_
      clear HA HB ca cb
      have TL : Tree w.drew (.pointer (some ⟨ga, 0, none⟩)) (treeF f [a]) := by rw [treeF_one]; exact AA.out
      have TR : Tree w.drew (.pointer (some ⟨gb, 0, none⟩)) (treeF f [b]) := by rw [treeF_one]; exact BB.out
      have J2 := hid (joinT_any TT.out TL TR (fine_tree (by have := HD'.out; omega) G0.out (by simp)) (fine_tree (by have := HD'.out; omega) G1.out (by simp)))
      have BW := hid (show Below w.heap.size w w.drew from (Below.refl _ _).drew)
      clear TL TR
      go_wp2_with fail
      refine J2.out.mono ?_
      rintro e w3 ⟨v3, rfl, t3, b3⟩
      rw [HJ.out] at t3
      have B3 := below_then BW.out b3
      clear J2
      go_wp2
      go_ret
      exact ⟨v3, rfl, t3, B3⟩
    · have HA := hid (bit_is (by omega) h1)
      have HB := hid (bit_is (by omega) h2)
      simp only [h1, h2, if_true, List.cons_append, List.nil_append, show (0 : Int) ≠ 1 by decide, show (1 : Int) ≠ 0 by decide, if_false, List.append_nil] at J g0 g1
      have HJ := hid J
      have G0 := hid g0
      have G1 := hid g1
      obtain ⟨pa, hpa⟩ : ∃ p, p = pathS a.key := ⟨_, rfl⟩
      obtain ⟨pb, hpb⟩ : ∃ p, p = pathS b.key := ⟨_, rfl⟩
      rw [← hpa] at ca HA
      rw [← hpb] at cb HB
      clear h1 h2 J g0 g1 hpa hpb
      go_enter Tryd.func59, Tryd.ntmps59
      go_wp2
      refine start_ (n := 14) (S := fun w' => w'.cell? ⟨ga, 2, none⟩ = some (.string pa) ∧ w'.cell? ⟨gb, 2, none⟩ = some (.string pb)) (ds := []) #[false, false, false, false, false, false, false, false, false, false, false, false, false, false] (by kernel_rfl) rfl rfl ⟨ca, cb⟩ (fun hHeld => ?_)
      refine pure_ (i := 0) (N := some 11) (v := ?_) (a' := ?_) #[true, false, false, false, false, false, false, false, false, false, false, false, false, false] rfl rfl (by kernel_rfl) (fun _ _ _ h => h) (Or.inl ⟨by rfl, ?_⟩) ?_ ?_
      rotate_left
      · intro w'
        go_simp
        with_reducible rfl
      rotate_left
      · simp only [Act.put, List.setIfInBounds_toArray, List.set_cons_zero, List.set_cons_succ, i64_w, i32_w]
        rfl
      refine pure_ (i := 1) (N := some 12) (v := ?_) (a' := ?_) #[true, true, false, false, false, false, false, false, false, false, false, false, false, false] rfl rfl (by kernel_rfl) (fun _ _ _ h => h) (Or.inl ⟨by rfl, ?_⟩) ?_ ?_
      rotate_left
      · intro w'
        go_simp
        with_reducible rfl
      rotate_left
      · simp only [Act.put, List.setIfInBounds_toArray, List.set_cons_zero, List.set_cons_succ, i64_w, i32_w]
        rfl
      refine pure_ (i := 2) (N := some 13) (v := ?_) (a' := ?_) #[true, true, true, false, false, false, false, false, false, false, false, false, false, false] rfl rfl (by kernel_rfl) (fun _ _ _ h => h) (Or.inl ⟨by rfl, ?_⟩) ?_ ?_
      rotate_left
      · intro w'
        go_simp
        with_reducible rfl
      rotate_left
      · simp only [Act.put, List.setIfInBounds_toArray, List.set_cons_zero, List.set_cons_succ, i64_w, i32_w]
        rfl
      refine pure_ (i := 4) (N := some 15) (v := ?_) (a' := ?_) #[true, true, true, false, true, false, false, false, false, false, false, false, false, false] rfl rfl (by kernel_rfl) (fun _ _ _ h => h) (Or.inl ⟨by rfl, ?_⟩) ?_ ?_
      rotate_left
      · intro w'
        go_simp
        with_reducible rfl
      rotate_left
      · simp only [Act.put, List.setIfInBounds_toArray, List.set_cons_zero, List.set_cons_succ, i64_w, i32_w]
        rfl
      refine pure_ (i := 6) (N := some 17) (v := ?_) (a' := ?_) #[true, true, true, false, true, false, true, false, false, false, false, false, false, false] rfl rfl (by kernel_rfl) (fun _ _ _ h => h) (Or.inl ⟨by rfl, ?_⟩) ?_ ?_
      rotate_left
      · intro w'
        go_simp
        with_reducible rfl
      rotate_left
      · simp only [Act.put, List.setIfInBounds_toArray, List.set_cons_zero, List.set_cons_succ, i64_w, i32_w]
        rfl
      refine pure_ (i := 7) (N := some 18) (v := ?_) (a' := ?_) #[true, true, true, false, true, false, true, true, false, false, false, false, false, false] rfl rfl (by kernel_rfl) (fun _ _ _ h => h) (Or.inl ⟨by rfl, ?_⟩) ?_ ?_
      rotate_left
      · intro w'
        go_simp
        with_reducible rfl
      rotate_left
      · simp only [Act.put, List.setIfInBounds_toArray, List.set_cons_zero, List.set_cons_succ, i64_w, i32_w]
        rfl
      refine pure_ (i := 8) (N := some 19) (v := ?_) (a' := ?_) #[true, true, true, false, true, false, true, true, true, false, false, false, false, false] rfl rfl (by kernel_rfl) (fun _ _ _ h => h) (Or.inl ⟨by rfl, ?_⟩) ?_ ?_
      rotate_left
      · intro w'
        go_simp
        with_reducible rfl
      rotate_left
      · simp only [Act.put, List.setIfInBounds_toArray, List.set_cons_zero, List.set_cons_succ, i64_w, i32_w]
        rfl
      refine pure_ (i := 10) (N := some 21) (v := ?_) (a' := ?_) #[true, true, true, false, true, false, true, true, true, false, true, false, false, false] rfl rfl (by kernel_rfl) (fun _ _ _ h => h) (Or.inl ⟨by rfl, ?_⟩) ?_ ?_
      rotate_left
      · intro w'
        go_simp
        with_reducible rfl
      rotate_left
      · simp only [Act.put, List.setIfInBounds_toArray, List.set_cons_zero, List.set_cons_succ, i64_w, i32_w]
        rfl
      refine take_ (i := 3) (N := some 14) (v := ?_) (a' := ?_) #[true, true, true, true, true, false, true, true, true, false, true, false, false, false] rfl rfl (by kernel_rfl) (fun _ _ _ h => h) (Or.inl ⟨by rfl, ?_⟩) hHeld ?_ ?_
      rotate_left
      · rintro w' ⟨s0, s1⟩
        go_simp
        with_reducible rfl
      rotate_left
      · simp only [Act.put, List.setIfInBounds_toArray, List.set_cons_zero, List.set_cons_succ, i64_w, i32_w]
        rfl
      refine take_ (i := 9) (N := some 20) (v := ?_) (a' := ?_) #[true, true, true, true, true, false, true, true, true, true, true, false, false, false] rfl rfl (by kernel_rfl) (fun _ _ _ h => h) (Or.inl ⟨by rfl, ?_⟩) hHeld ?_ ?_
      rotate_left
      · rintro w' ⟨s0, s1⟩
        go_simp
        with_reducible rfl
      rotate_left
      · simp only [Act.put, List.setIfInBounds_toArray, List.set_cons_zero, List.set_cons_succ, i64_w, i32_w]
        rfl
      refine one_ (i := 5) (N := some 16) #[true, true, true, true, true, true, true, true, true, true, true, false, false, false] rfl rfl (by kernel_rfl) (by decide) (fun K hK => ?_)
      refine goes_ Tryd.func48 (by kernel_rfl) rfl #[.string pa, .int .i64 (d : Int)] (by rfl) rfl rfl (by simp only [List.map_toArray, List.map_cons, List.map_nil]; rfl) ?_
      with_reducible refine ((HA.out _)).mono ?_
      rintro e' w1 ⟨rfl, rfl⟩
      refine ⟨_, rfl, ?_⟩
      refine hK.out _ _ ⟨hHeld.1, hHeld.2⟩ (fun hHeld => ?_)
      clear hK K
      refine norm_ (a' := ?_) ?_ ?_
      rotate_left
      · show Act.put _ (some 16) _ = _
        simp only [Act.put, List.setIfInBounds_toArray, List.set_cons_zero, List.set_cons_succ, i64_w, i32_w]
        rfl
      refine one_ (i := 11) (N := some 22) #[true, true, true, true, true, true, true, true, true, true, true, true, false, false] rfl rfl (by kernel_rfl) (by decide) (fun K hK => ?_)
      refine goes_ Tryd.func48 (by kernel_rfl) rfl #[.string pb, .int .i64 (d : Int)] (by rfl) rfl rfl (by simp only [List.map_toArray, List.map_cons, List.map_nil]; rfl) ?_
      with_reducible refine ((HB.out _)).mono ?_
      rintro e' w1 ⟨rfl, rfl⟩
      refine ⟨_, rfl, ?_⟩
      refine hK.out _ _ ⟨hHeld.1, hHeld.2⟩ (fun hHeld => ?_)
      clear hK K
      refine norm_ (a' := ?_) ?_ ?_
      rotate_left
      · show Act.put _ (some 22) _ = _
        simp only [Act.put, List.setIfInBounds_toArray, List.set_cons_zero, List.set_cons_succ, i64_w, i32_w]
        rfl
      refine pure_ (i := 12) (N := some 7) (v := ?_) (a' := ?_) #[true, true, true, true, true, true, true, true, true, true, true, true, true, false] rfl rfl (by kernel_rfl) (fun _ _ _ h => h) (Or.inl ⟨by rfl, ?_⟩) ?_ ?_
      rotate_left
      · intro w'
        go_simp
        with_reducible rfl
      rotate_left
      · simp only [Act.put, List.setIfInBounds_toArray, List.set_cons_zero, List.set_cons_succ, i64_w, i32_w]
        rfl
      refine pure_ (i := 13) (N := some 8) (v := ?_) (a' := ?_) #[true, true, true, true, true, true, true, true, true, true, true, true, true, true] rfl rfl (by kernel_rfl) (fun _ _ _ h => h) (Or.inl ⟨by rfl, ?_⟩) ?_ ?_
      rotate_left
      · intro w'
        go_simp
        with_reducible rfl
      rotate_left
      · simp only [Act.put, List.setIfInBounds_toArray, List.set_cons_zero, List.set_cons_succ, i64_w, i32_w]
        rfl
      refine done_ (by kernel_rfl) ?_
      clear HA HB ca cb
      have TL : Tree w.drew (.pointer (some ⟨gb, 0, none⟩)) (treeF f [b]) := by rw [treeF_one]; exact BB.out
      have TR : Tree w.drew (.pointer (some ⟨ga, 0, none⟩)) (treeF f [a]) := by rw [treeF_one]; exact AA.out
      have J2 := hid (joinT_any TT.out TL TR (fine_tree (by have := HD'.out; omega) G0.out (by simp)) (fine_tree (by have := HD'.out; omega) G1.out (by simp)))
      have BW := hid (show Below w.heap.size w w.drew from (Below.refl _ _).drew)
      clear TL TR
      go_wp2_with fail
      refine J2.out.mono ?_
      rintro e w3 ⟨v3, rfl, t3, b3⟩
      rw [HJ.out] at t3
      have B3 := below_then BW.out b3
      clear J2
      go_wp2
      go_ret
      exact ⟨v3, rfl, t3, B3⟩
    · have HA := hid (bit_is (by omega) h1)
      have HB := hid (bit_is (by omega) h2)
      simp only [h1, h2, if_true, List.cons_append, List.nil_append, show (0 : Int) ≠ 1 by decide, show (1 : Int) ≠ 0 by decide, if_false, List.append_nil] at J g0 g1
      have HJ := hid J
      have G0 := hid g0
      have G1 := hid g1
      obtain ⟨pa, hpa⟩ : ∃ p, p = pathS a.key := ⟨_, rfl⟩
      obtain ⟨pb, hpb⟩ : ∃ p, p = pathS b.key := ⟨_, rfl⟩
      rw [← hpa] at ca HA
      rw [← hpb] at cb HB
      clear h1 h2 J g0 g1 hpa hpb
      go_enter Tryd.func59, Tryd.ntmps59
      go_wp2
      refine start_ (n := 14) (S := fun w' => w'.cell? ⟨ga, 2, none⟩ = some (.string pa) ∧ w'.cell? ⟨gb, 2, none⟩ = some (.string pb)) (ds := []) #[false, false, false, false, false, false, false, false, false, false, false, false, false, false] (by kernel_rfl) rfl rfl ⟨ca, cb⟩ (fun hHeld => ?_)
      refine pure_ (i := 0) (N := some 11) (v := ?_) (a' := ?_) #[true, false, false, false, false, false, false, false, false, false, false, false, false, false] rfl rfl (by kernel_rfl) (fun _ _ _ h => h) (Or.inl ⟨by rfl, ?_⟩) ?_ ?_
      rotate_left
      · intro w'
        go_simp
        with_reducible rfl
      rotate_left
      · simp only [Act.put, List.setIfInBounds_toArray, List.set_cons_zero, List.set_cons_succ, i64_w, i32_w]
        rfl
      refine pure_ (i := 1) (N := some 12) (v := ?_) (a' := ?_) #[true, true, false, false, false, false, false, false, false, false, false, false, false, false] rfl rfl (by kernel_rfl) (fun _ _ _ h => h) (Or.inl ⟨by rfl, ?_⟩) ?_ ?_
      rotate_left
      · intro w'
        go_simp
        with_reducible rfl
      rotate_left
      · simp only [Act.put, List.setIfInBounds_toArray, List.set_cons_zero, List.set_cons_succ, i64_w, i32_w]
        rfl
      refine pure_ (i := 2) (N := some 13) (v := ?_) (a' := ?_) #[true, true, true, false, false, false, false, false, false, false, false, false, false, false] rfl rfl (by kernel_rfl) (fun _ _ _ h => h) (Or.inl ⟨by rfl, ?_⟩) ?_ ?_
      rotate_left
      · intro w'
        go_simp
        with_reducible rfl
      rotate_left
      · simp only [Act.put, List.setIfInBounds_toArray, List.set_cons_zero, List.set_cons_succ, i64_w, i32_w]
        rfl
      refine pure_ (i := 4) (N := some 15) (v := ?_) (a' := ?_) #[true, true, true, false, true, false, false, false, false, false, false, false, false, false] rfl rfl (by kernel_rfl) (fun _ _ _ h => h) (Or.inl ⟨by rfl, ?_⟩) ?_ ?_
      rotate_left
      · intro w'
        go_simp
        with_reducible rfl
      rotate_left
      · simp only [Act.put, List.setIfInBounds_toArray, List.set_cons_zero, List.set_cons_succ, i64_w, i32_w]
        rfl
      refine pure_ (i := 6) (N := some 17) (v := ?_) (a' := ?_) #[true, true, true, false, true, false, true, false, false, false, false, false, false, false] rfl rfl (by kernel_rfl) (fun _ _ _ h => h) (Or.inl ⟨by rfl, ?_⟩) ?_ ?_
      rotate_left
      · intro w'
        go_simp
        with_reducible rfl
      rotate_left
      · simp only [Act.put, List.setIfInBounds_toArray, List.set_cons_zero, List.set_cons_succ, i64_w, i32_w]
        rfl
      refine pure_ (i := 7) (N := some 18) (v := ?_) (a' := ?_) #[true, true, true, false, true, false, true, true, false, false, false, false, false, false] rfl rfl (by kernel_rfl) (fun _ _ _ h => h) (Or.inl ⟨by rfl, ?_⟩) ?_ ?_
      rotate_left
      · intro w'
        go_simp
        with_reducible rfl
      rotate_left
      · simp only [Act.put, List.setIfInBounds_toArray, List.set_cons_zero, List.set_cons_succ, i64_w, i32_w]
        rfl
      refine pure_ (i := 8) (N := some 19) (v := ?_) (a' := ?_) #[true, true, true, false, true, false, true, true, true, false, false, false, false, false] rfl rfl (by kernel_rfl) (fun _ _ _ h => h) (Or.inl ⟨by rfl, ?_⟩) ?_ ?_
      rotate_left
      · intro w'
        go_simp
        with_reducible rfl
      rotate_left
      · simp only [Act.put, List.setIfInBounds_toArray, List.set_cons_zero, List.set_cons_succ, i64_w, i32_w]
        rfl
      refine pure_ (i := 10) (N := some 21) (v := ?_) (a' := ?_) #[true, true, true, false, true, false, true, true, true, false, true, false, false, false] rfl rfl (by kernel_rfl) (fun _ _ _ h => h) (Or.inl ⟨by rfl, ?_⟩) ?_ ?_
      rotate_left
      · intro w'
        go_simp
        with_reducible rfl
      rotate_left
      · simp only [Act.put, List.setIfInBounds_toArray, List.set_cons_zero, List.set_cons_succ, i64_w, i32_w]
        rfl
      refine take_ (i := 3) (N := some 14) (v := ?_) (a' := ?_) #[true, true, true, true, true, false, true, true, true, false, true, false, false, false] rfl rfl (by kernel_rfl) (fun _ _ _ h => h) (Or.inl ⟨by rfl, ?_⟩) hHeld ?_ ?_
      rotate_left
      · rintro w' ⟨s0, s1⟩
        go_simp
        with_reducible rfl
      rotate_left
      · simp only [Act.put, List.setIfInBounds_toArray, List.set_cons_zero, List.set_cons_succ, i64_w, i32_w]
        rfl
      refine take_ (i := 9) (N := some 20) (v := ?_) (a' := ?_) #[true, true, true, true, true, false, true, true, true, true, true, false, false, false] rfl rfl (by kernel_rfl) (fun _ _ _ h => h) (Or.inl ⟨by rfl, ?_⟩) hHeld ?_ ?_
      rotate_left
      · rintro w' ⟨s0, s1⟩
        go_simp
        with_reducible rfl
      rotate_left
      · simp only [Act.put, List.setIfInBounds_toArray, List.set_cons_zero, List.set_cons_succ, i64_w, i32_w]
        rfl
      refine one_ (i := 5) (N := some 16) #[true, true, true, true, true, true, true, true, true, true, true, false, false, false] rfl rfl (by kernel_rfl) (by decide) (fun K hK => ?_)
      refine goes_ Tryd.func48 (by kernel_rfl) rfl #[.string pa, .int .i64 (d : Int)] (by rfl) rfl rfl (by simp only [List.map_toArray, List.map_cons, List.map_nil]; rfl) ?_
      with_reducible refine ((HA.out _)).mono ?_
      rintro e' w1 ⟨rfl, rfl⟩
      refine ⟨_, rfl, ?_⟩
      refine hK.out _ _ ⟨hHeld.1, hHeld.2⟩ (fun hHeld => ?_)
      clear hK K
      refine norm_ (a' := ?_) ?_ ?_
      rotate_left
      · show Act.put _ (some 16) _ = _
        simp only [Act.put, List.setIfInBounds_toArray, List.set_cons_zero, List.set_cons_succ, i64_w, i32_w]
        rfl
      refine one_ (i := 11) (N := some 22) #[true, true, true, true, true, true, true, true, true, true, true, true, false, false] rfl rfl (by kernel_rfl) (by decide) (fun K hK => ?_)
      refine goes_ Tryd.func48 (by kernel_rfl) rfl #[.string pb, .int .i64 (d : Int)] (by rfl) rfl rfl (by simp only [List.map_toArray, List.map_cons, List.map_nil]; rfl) ?_
      with_reducible refine ((HB.out _)).mono ?_
      rintro e' w1 ⟨rfl, rfl⟩
      refine ⟨_, rfl, ?_⟩
      refine hK.out _ _ ⟨hHeld.1, hHeld.2⟩ (fun hHeld => ?_)
      clear hK K
      refine norm_ (a' := ?_) ?_ ?_
      rotate_left
      · show Act.put _ (some 22) _ = _
        simp only [Act.put, List.setIfInBounds_toArray, List.set_cons_zero, List.set_cons_succ, i64_w, i32_w]
        rfl
      refine pure_ (i := 12) (N := some 7) (v := ?_) (a' := ?_) #[true, true, true, true, true, true, true, true, true, true, true, true, true, false] rfl rfl (by kernel_rfl) (fun _ _ _ h => h) (Or.inl ⟨by rfl, ?_⟩) ?_ ?_
      rotate_left
      · intro w'
        go_simp
        with_reducible rfl
      rotate_left
      · simp only [Act.put, List.setIfInBounds_toArray, List.set_cons_zero, List.set_cons_succ, i64_w, i32_w]
        rfl
      refine pure_ (i := 13) (N := some 8) (v := ?_) (a' := ?_) #[true, true, true, true, true, true, true, true, true, true, true, true, true, true] rfl rfl (by kernel_rfl) (fun _ _ _ h => h) (Or.inl ⟨by rfl, ?_⟩) ?_ ?_
      rotate_left
      · intro w'
        go_simp
        with_reducible rfl
      rotate_left
      · simp only [Act.put, List.setIfInBounds_toArray, List.set_cons_zero, List.set_cons_succ, i64_w, i32_w]
        rfl
      refine done_ (by kernel_rfl) ?_
      clear HA HB ca cb
      have R0 := IH.out _ _ _ _ _ _ TT.out AA.out BB.out G1.out HD'.out
      rw [show ((d + 1 : Nat) : Int) = (d : Int) + 1 by omega] at R0
      have R := hid R0
      clear R0
      go_wp2_with fail
      refine R.out.mono ?_
      rintro e w2 ⟨v2, rfl, t2, b2⟩
      have TL : Tree w2 (.pointer none) (treeF f []) := by rw [treeF_nil]; exact Tree.nil w2
      have TR : Tree w2 v2 (treeF f [a, b]) := t2
      have J2 := hid (joinT_any (TT.out.below b2) TL TR (fine_tree (by have := HD'.out; omega) G0.out (by simp)) (fine_tree (by have := HD'.out; omega) G1.out (by simp)))
      have BW := hid (below_then (show Below w.heap.size w w.drew from (Below.refl _ _).drew) b2)
      clear R t2 b2 TL TR
      go_wp2_with fail
      refine J2.out.mono ?_
      rintro e w3 ⟨v3, rfl, t3, b3⟩
      rw [HJ.out] at t3
      have B3 := below_then BW.out b3
      clear J2
      go_wp2
      go_ret
      exact ⟨v3, rfl, t3, B3⟩

theorem str_eq_of {p q : List UInt8} (h : strB p = strB q) : p = q := strB_inj h
theorem path_eq {a b : ByteArray} : pathS a = pathS b ↔ pathK a = pathK b := by
  constructor
  · intro h; exact strB_inj h
  · intro h; show strB (pathK a) = strB (pathK b); rw [h]

set_option maxRecDepth 100000 in
set_option maxHeartbeats 12800000 in
theorem put_nil {w : World} {vx : Value} {d : Int} : Calls Tryd.prog 45 #[.pointer none, vx, .int .i64 d] w fun e w' => e = .returned vx ∧ Below w.heap.size w w' := by
  go_enter Tryd.func45, Tryd.ntmps45
  go_wp2
  refine start_ (n := 18) (S := fun w' => True) (ds := []) #[false, false, false, false, false, false, false, false, false, false, false, false, false, false, false, false, false, false] (by kernel_rfl) rfl rfl trivial (fun hHeld => ?_)
  refine pure_ (i := 0) (N := some 8) (v := ?_) (a' := ?_) #[true, false, false, false, false, false, false, false, false, false, false, false, false, false, false, false, false, false] rfl rfl (by kernel_rfl) (fun _ _ _ h => h) (Or.inl ⟨by rfl, ?_⟩) ?_ ?_
  rotate_left
  · intro w'
    go_simp
    with_reducible rfl
  rotate_left
  · simp only [Act.put, List.setIfInBounds_toArray, List.set_cons_zero, List.set_cons_succ, i64_w, i32_w]
    rfl
  refine pure_ (i := 1) (N := some 9) (v := ?_) (a' := ?_) #[true, true, false, false, false, false, false, false, false, false, false, false, false, false, false, false, false, false] rfl rfl (by kernel_rfl) (fun _ _ _ h => h) (Or.inl ⟨by rfl, ?_⟩) ?_ ?_
  rotate_left
  · intro w'
    go_simp
    with_reducible rfl
  rotate_left
  · simp only [Act.put, List.setIfInBounds_toArray, List.set_cons_zero, List.set_cons_succ, i64_w, i32_w]
    rfl
  refine pure_ (i := 2) (N := some 10) (v := ?_) (a' := ?_) #[true, true, true, false, false, false, false, false, false, false, false, false, false, false, false, false, false, false] rfl rfl (by kernel_rfl) (fun _ _ _ h => h) (Or.inl ⟨by rfl, ?_⟩) ?_ ?_
  rotate_left
  · intro w'
    go_simp
    with_reducible rfl
  rotate_left
  · simp only [Act.put, List.setIfInBounds_toArray, List.set_cons_zero, List.set_cons_succ, i64_w, i32_w]
    rfl
  refine pure_ (i := 3) (N := some 11) (v := undef) (a' := ?_) #[true, true, true, true, false, false, false, false, false, false, false, false, false, false, false, false, false, false] rfl rfl (by kernel_rfl) (fun _ _ _ h => h) (Or.inr ⟨by rfl, rfl⟩) ?_ ?_
  rotate_left
  · simp only [Act.put, List.setIfInBounds_toArray, List.set_cons_zero, List.set_cons_succ, i64_w, i32_w]
    rfl
  refine pure_ (i := 4) (N := some 12) (v := undef) (a' := ?_) #[true, true, true, true, true, false, false, false, false, false, false, false, false, false, false, false, false, false] rfl rfl (by kernel_rfl) (fun _ _ _ h => h) (Or.inr ⟨by rfl, rfl⟩) ?_ ?_
  rotate_left
  · simp only [Act.put, List.setIfInBounds_toArray, List.set_cons_zero, List.set_cons_succ, i64_w, i32_w]
    rfl
  refine pure_ (i := 5) (N := some 13) (v := undef) (a' := ?_) #[true, true, true, true, true, true, false, false, false, false, false, false, false, false, false, false, false, false] rfl rfl (by kernel_rfl) (fun _ _ _ h => h) (Or.inr ⟨by rfl, rfl⟩) ?_ ?_
  rotate_left
  · simp only [Act.put, List.setIfInBounds_toArray, List.set_cons_zero, List.set_cons_succ, i64_w, i32_w]
    rfl
  refine pure_ (i := 6) (N := some 14) (v := undef) (a' := ?_) #[true, true, true, true, true, true, true, false, false, false, false, false, false, false, false, false, false, false] rfl rfl (by kernel_rfl) (fun _ _ _ h => h) (Or.inr ⟨by rfl, rfl⟩) ?_ ?_
  rotate_left
  · simp only [Act.put, List.setIfInBounds_toArray, List.set_cons_zero, List.set_cons_succ, i64_w, i32_w]
    rfl
  refine pure_ (i := 7) (N := some 15) (v := undef) (a' := ?_) #[true, true, true, true, true, true, true, true, false, false, false, false, false, false, false, false, false, false] rfl rfl (by kernel_rfl) (fun _ _ _ h => h) (Or.inr ⟨by rfl, rfl⟩) ?_ ?_
  rotate_left
  · simp only [Act.put, List.setIfInBounds_toArray, List.set_cons_zero, List.set_cons_succ, i64_w, i32_w]
    rfl
  refine pure_ (i := 8) (N := some 16) (v := undef) (a' := ?_) #[true, true, true, true, true, true, true, true, true, false, false, false, false, false, false, false, false, false] rfl rfl (by kernel_rfl) (fun _ _ _ h => h) (Or.inr ⟨by rfl, rfl⟩) ?_ ?_
  rotate_left
  · simp only [Act.put, List.setIfInBounds_toArray, List.set_cons_zero, List.set_cons_succ, i64_w, i32_w]
    rfl
  refine pure_ (i := 9) (N := some 17) (v := undef) (a' := ?_) #[true, true, true, true, true, true, true, true, true, true, false, false, false, false, false, false, false, false] rfl rfl (by kernel_rfl) (fun _ _ _ h => h) (Or.inr ⟨by rfl, rfl⟩) ?_ ?_
  rotate_left
  · simp only [Act.put, List.setIfInBounds_toArray, List.set_cons_zero, List.set_cons_succ, i64_w, i32_w]
    rfl
  refine pure_ (i := 10) (N := some 18) (v := undef) (a' := ?_) #[true, true, true, true, true, true, true, true, true, true, true, false, false, false, false, false, false, false] rfl rfl (by kernel_rfl) (fun _ _ _ h => h) (Or.inr ⟨by rfl, rfl⟩) ?_ ?_
  rotate_left
  · simp only [Act.put, List.setIfInBounds_toArray, List.set_cons_zero, List.set_cons_succ, i64_w, i32_w]
    rfl
  refine pure_ (i := 11) (N := some 19) (v := undef) (a' := ?_) #[true, true, true, true, true, true, true, true, true, true, true, true, false, false, false, false, false, false] rfl rfl (by kernel_rfl) (fun _ _ _ h => h) (Or.inr ⟨by rfl, rfl⟩) ?_ ?_
  rotate_left
  · simp only [Act.put, List.setIfInBounds_toArray, List.set_cons_zero, List.set_cons_succ, i64_w, i32_w]
    rfl
  refine pure_ (i := 12) (N := some 20) (v := undef) (a' := ?_) #[true, true, true, true, true, true, true, true, true, true, true, true, true, false, false, false, false, false] rfl rfl (by kernel_rfl) (fun _ _ _ h => h) (Or.inr ⟨by rfl, rfl⟩) ?_ ?_
  rotate_left
  · simp only [Act.put, List.setIfInBounds_toArray, List.set_cons_zero, List.set_cons_succ, i64_w, i32_w]
    rfl
  refine pure_ (i := 13) (N := some 21) (v := undef) (a' := ?_) #[true, true, true, true, true, true, true, true, true, true, true, true, true, true, false, false, false, false] rfl rfl (by kernel_rfl) (fun _ _ _ h => h) (Or.inr ⟨by rfl, rfl⟩) ?_ ?_
  rotate_left
  · simp only [Act.put, List.setIfInBounds_toArray, List.set_cons_zero, List.set_cons_succ, i64_w, i32_w]
    rfl
  refine pure_ (i := 14) (N := some 22) (v := undef) (a' := ?_) #[true, true, true, true, true, true, true, true, true, true, true, true, true, true, true, false, false, false] rfl rfl (by kernel_rfl) (fun _ _ _ h => h) (Or.inr ⟨by rfl, rfl⟩) ?_ ?_
  rotate_left
  · simp only [Act.put, List.setIfInBounds_toArray, List.set_cons_zero, List.set_cons_succ, i64_w, i32_w]
    rfl
  refine pure_ (i := 15) (N := some 23) (v := undef) (a' := ?_) #[true, true, true, true, true, true, true, true, true, true, true, true, true, true, true, true, false, false] rfl rfl (by kernel_rfl) (fun _ _ _ h => h) (Or.inr ⟨by rfl, rfl⟩) ?_ ?_
  rotate_left
  · simp only [Act.put, List.setIfInBounds_toArray, List.set_cons_zero, List.set_cons_succ, i64_w, i32_w]
    rfl
  refine pure_ (i := 16) (N := some 24) (v := ?_) (a' := ?_) #[true, true, true, true, true, true, true, true, true, true, true, true, true, true, true, true, true, false] rfl rfl (by kernel_rfl) (fun _ _ _ h => h) (Or.inl ⟨by rfl, ?_⟩) ?_ ?_
  rotate_left
  · intro w'
    go_simp
    with_reducible rfl
  rotate_left
  · simp only [Act.put, List.setIfInBounds_toArray, List.set_cons_zero, List.set_cons_succ, i64_w, i32_w]
    rfl
  refine pure_ (i := 17) (N := some 7) (v := ?_) (a' := ?_) #[true, true, true, true, true, true, true, true, true, true, true, true, true, true, true, true, true, true] rfl rfl (by kernel_rfl) (fun _ _ _ h => h) (Or.inl ⟨by rfl, ?_⟩) ?_ ?_
  rotate_left
  · intro w'
    go_simp
    with_reducible rfl
  rotate_left
  · simp only [Act.put, List.setIfInBounds_toArray, List.set_cons_zero, List.set_cons_succ, i64_w, i32_w]
    rfl
  refine done_ (by kernel_rfl) ?_
  go_wp2
  go_ret
  exact ⟨rfl, (Below.refl _ _).drew⟩
set_option maxRecDepth 100000 in
set_option maxHeartbeats 12800000 in
theorem put_leaf {w : World} (hT : Table w) {v vx : Value} {y x : Itm} {f d : Nat} (hv : Tree w v (.leaf y)) (hx : Tree w vx (.leaf x)) (hd : d + f = 256) (hg : pathK y.key ≠ pathK x.key → Good f [y, x]) :
    Calls Tryd.prog 45 #[v, vx, .int .i64 (d : Int)] w (Grew w (if pathK y.key = pathK x.key then .leaf x else treeF f [y, x])) := by
  have HS : Hid (∀ w', Below w.heap.size w w' → Calls Tryd.prog 54 #[v] w' fun e w'' => e = .returned (.bool true) ∧ w' = w'') := hid (fun w' h => single_leaf (Tree.below hv h))
  have TT := hid hT
  have VV := hid hv
  have XX := hid hx
  have HD := hid hd
  have HG := hid hg
  obtain ⟨ga, Ba, da, rfl, _, h3a, _⟩ := hv
  obtain ⟨gb, Bb, db, rfl, _, h3b, _⟩ := hx
  obtain ⟨-, -, ca, -, -, -, -⟩ := seven h3a
  obtain ⟨-, -, cb, -, -, -, -⟩ := seven h3b
  have B0 := hid (show Below w.heap.size w w.drew from (Below.refl _ _).drew)
  clear hT h3a h3b hd hg
  by_cases h : pathK y.key = pathK x.key
  · rw [if_pos h]
    have ht : ((pathS y.key).toList == (pathS x.key).toList) = true := by rw [path_eq.2 h]; simp
    obtain ⟨pa, hpa⟩ : ∃ p, p = pathS y.key := ⟨_, rfl⟩
    obtain ⟨pb, hpb⟩ : ∃ p, p = pathS x.key := ⟨_, rfl⟩
    rw [← hpa] at ca ht
    rw [← hpb] at cb ht
    clear h hpa hpb
    go_enter Tryd.func45, Tryd.ntmps45
    go_wp2
    refine start_ (n := 18) (S := fun w' => w'.cell? ⟨ga, 2, none⟩ = some (.string pa) ∧ w'.cell? ⟨gb, 2, none⟩ = some (.string pb)) (ds := []) #[false, false, false, false, false, false, false, false, false, false, false, false, false, false, false, false, false, false] (by kernel_rfl) rfl rfl ⟨ca, cb⟩ (fun hHeld => ?_)
    refine pure_ (i := 0) (N := some 8) (v := ?_) (a' := ?_) #[true, false, false, false, false, false, false, false, false, false, false, false, false, false, false, false, false, false] rfl rfl (by kernel_rfl) (fun _ _ _ h => h) (Or.inl ⟨by rfl, ?_⟩) ?_ ?_
    rotate_left
    · intro w'
      go_simp
      with_reducible rfl
    rotate_left
    · simp only [Act.put, List.setIfInBounds_toArray, List.set_cons_zero, List.set_cons_succ, i64_w, i32_w]
      rfl
    refine pure_ (i := 1) (N := some 9) (v := ?_) (a' := ?_) #[true, true, false, false, false, false, false, false, false, false, false, false, false, false, false, false, false, false] rfl rfl (by kernel_rfl) (fun _ _ _ h => h) (Or.inl ⟨by rfl, ?_⟩) ?_ ?_
    rotate_left
    · intro w'
      go_simp
      with_reducible rfl
    rotate_left
    · simp only [Act.put, List.setIfInBounds_toArray, List.set_cons_zero, List.set_cons_succ, i64_w, i32_w]
      rfl
    refine pure_ (i := 2) (N := some 10) (v := ?_) (a' := ?_) #[true, true, true, false, false, false, false, false, false, false, false, false, false, false, false, false, false, false] rfl rfl (by kernel_rfl) (fun _ _ _ h => h) (Or.inl ⟨by rfl, ?_⟩) ?_ ?_
    rotate_left
    · intro w'
      go_simp
      with_reducible rfl
    rotate_left
    · simp only [Act.put, List.setIfInBounds_toArray, List.set_cons_zero, List.set_cons_succ, i64_w, i32_w]
      rfl
    refine pure_ (i := 3) (N := some 11) (v := ?_) (a' := ?_) #[true, true, true, true, false, false, false, false, false, false, false, false, false, false, false, false, false, false] rfl rfl (by kernel_rfl) (fun _ _ _ h => h) (Or.inl ⟨by rfl, ?_⟩) ?_ ?_
    rotate_left
    · intro w'
      go_simp
      with_reducible rfl
    rotate_left
    · simp only [Act.put, List.setIfInBounds_toArray, List.set_cons_zero, List.set_cons_succ, i64_w, i32_w]
      rfl
    refine one_ (i := 4) (N := some 12) #[true, true, true, true, true, false, false, false, false, false, false, false, false, false, false, false, false, false] rfl rfl (by kernel_rfl) (by decide) (fun K hK => ?_)
    refine goes_ Tryd.func54 (by kernel_rfl) rfl #[.pointer (some ⟨ga, 0, none⟩)] (by rfl) rfl rfl (by simp only [List.map_toArray, List.map_cons, List.map_nil]; rfl) ?_
    with_reducible refine ((HS.out _ B0.out)).mono ?_
    rintro e' w1 ⟨rfl, rfl⟩
    refine ⟨_, rfl, ?_⟩
    refine hK.out _ _ ⟨hHeld.1, hHeld.2⟩ (fun hHeld => ?_)
    clear hK K
    refine norm_ (a' := ?_) ?_ ?_
    rotate_left
    · show Act.put _ (some 12) _ = _
      simp only [Act.put, List.setIfInBounds_toArray, List.set_cons_zero, List.set_cons_succ, i64_w, i32_w]
      rfl
    refine pure_ (i := 5) (N := some 13) (v := ?_) (a' := ?_) #[true, true, true, true, true, true, false, false, false, false, false, false, false, false, false, false, false, false] rfl rfl (by kernel_rfl) (fun _ _ _ h => h) (Or.inl ⟨by rfl, ?_⟩) ?_ ?_
    rotate_left
    · intro w'
      go_simp
      with_reducible rfl
    rotate_left
    · simp only [Act.put, List.setIfInBounds_toArray, List.set_cons_zero, List.set_cons_succ, i64_w, i32_w]
      rfl
    refine pure_ (i := 6) (N := some 14) (v := ?_) (a' := ?_) #[true, true, true, true, true, true, true, false, false, false, false, false, false, false, false, false, false, false] rfl rfl (by kernel_rfl) (fun _ _ _ h => h) (Or.inl ⟨by rfl, ?_⟩) ?_ ?_
    rotate_left
    · intro w'
      go_simp
      with_reducible rfl
    rotate_left
    · simp only [Act.put, List.setIfInBounds_toArray, List.set_cons_zero, List.set_cons_succ, i64_w, i32_w]
      rfl
    refine pure_ (i := 7) (N := some 15) (v := ?_) (a' := ?_) #[true, true, true, true, true, true, true, true, false, false, false, false, false, false, false, false, false, false] rfl rfl (by kernel_rfl) (fun _ _ _ h => h) (Or.inl ⟨by rfl, ?_⟩) ?_ ?_
    rotate_left
    · intro w'
      go_simp
      with_reducible rfl
    rotate_left
    · simp only [Act.put, List.setIfInBounds_toArray, List.set_cons_zero, List.set_cons_succ, i64_w, i32_w]
      rfl
    refine pure_ (i := 8) (N := some 16) (v := ?_) (a' := ?_) #[true, true, true, true, true, true, true, true, true, false, false, false, false, false, false, false, false, false] rfl rfl (by kernel_rfl) (fun _ _ _ h => h) (Or.inl ⟨by rfl, ?_⟩) ?_ ?_
    rotate_left
    · intro w'
      go_simp
      with_reducible rfl
    rotate_left
    · simp only [Act.put, List.setIfInBounds_toArray, List.set_cons_zero, List.set_cons_succ, i64_w, i32_w]
      rfl
    refine pure_ (i := 10) (N := some 18) (v := ?_) (a' := ?_) #[true, true, true, true, true, true, true, true, true, false, true, false, false, false, false, false, false, false] rfl rfl (by kernel_rfl) (fun _ _ _ h => h) (Or.inl ⟨by rfl, ?_⟩) ?_ ?_
    rotate_left
    · intro w'
      go_simp
      with_reducible rfl
    rotate_left
    · simp only [Act.put, List.setIfInBounds_toArray, List.set_cons_zero, List.set_cons_succ, i64_w, i32_w]
      rfl
    refine pure_ (i := 11) (N := some 19) (v := ?_) (a' := ?_) #[true, true, true, true, true, true, true, true, true, false, true, true, false, false, false, false, false, false] rfl rfl (by kernel_rfl) (fun _ _ _ h => h) (Or.inl ⟨by rfl, ?_⟩) ?_ ?_
    rotate_left
    · intro w'
      go_simp
      with_reducible rfl
    rotate_left
    · simp only [Act.put, List.setIfInBounds_toArray, List.set_cons_zero, List.set_cons_succ, i64_w, i32_w]
      rfl
    refine pure_ (i := 12) (N := some 20) (v := ?_) (a' := ?_) #[true, true, true, true, true, true, true, true, true, false, true, true, true, false, false, false, false, false] rfl rfl (by kernel_rfl) (fun _ _ _ h => h) (Or.inl ⟨by rfl, ?_⟩) ?_ ?_
    rotate_left
    · intro w'
      go_simp
      with_reducible rfl
    rotate_left
    · simp only [Act.put, List.setIfInBounds_toArray, List.set_cons_zero, List.set_cons_succ, i64_w, i32_w]
      rfl
    refine take_ (i := 9) (N := some 17) (v := ?_) (a' := ?_) #[true, true, true, true, true, true, true, true, true, true, true, true, true, false, false, false, false, false] rfl rfl (by kernel_rfl) (fun _ _ _ h => h) (Or.inl ⟨by rfl, ?_⟩) hHeld ?_ ?_
    rotate_left
    · rintro w' ⟨s0, s1⟩
      go_simp
      with_reducible rfl
    rotate_left
    · simp only [Act.put, List.setIfInBounds_toArray, List.set_cons_zero, List.set_cons_succ, i64_w, i32_w]
      rfl
    refine take_ (i := 13) (N := some 21) (v := ?_) (a' := ?_) #[true, true, true, true, true, true, true, true, true, true, true, true, true, true, false, false, false, false] rfl rfl (by kernel_rfl) (fun _ _ _ h => h) (Or.inl ⟨by rfl, ?_⟩) hHeld ?_ ?_
    rotate_left
    · rintro w' ⟨s0, s1⟩
      go_simp
      with_reducible rfl
    rotate_left
    · simp only [Act.put, List.setIfInBounds_toArray, List.set_cons_zero, List.set_cons_succ, i64_w, i32_w]
      rfl
    refine pure_ (i := 14) (N := some 22) (v := ?_) (a' := ?_) #[true, true, true, true, true, true, true, true, true, true, true, true, true, true, true, false, false, false] rfl rfl (by kernel_rfl) (fun _ _ _ h => h) (Or.inl ⟨by rfl, ?_⟩) ?_ ?_
    rotate_left
    · intro w'
      go_simp
      with_reducible rfl
    rotate_left
    · simp only [Act.put, List.setIfInBounds_toArray, List.set_cons_zero, List.set_cons_succ, i64_w, i32_w]
      rfl
    refine pure_ (i := 15) (N := some 23) (v := ?_) (a' := ?_) #[true, true, true, true, true, true, true, true, true, true, true, true, true, true, true, true, false, false] rfl rfl (by kernel_rfl) (fun _ _ _ h => h) (Or.inl ⟨by rfl, ?_⟩) ?_ ?_
    rotate_left
    · intro w'
      go_simp
      with_reducible rfl
    rotate_left
    · simp only [Act.put, List.setIfInBounds_toArray, List.set_cons_zero, List.set_cons_succ, i64_w, i32_w]
      rfl
    refine pure_ (i := 16) (N := some 24) (v := ?_) (a' := ?_) #[true, true, true, true, true, true, true, true, true, true, true, true, true, true, true, true, true, false] rfl rfl (by kernel_rfl) (fun _ _ _ h => h) (Or.inl ⟨by rfl, ?_⟩) ?_ ?_
    rotate_left
    · intro w'
      go_simp
      with_reducible rfl
    rotate_left
    · simp only [Act.put, List.setIfInBounds_toArray, List.set_cons_zero, List.set_cons_succ, i64_w, i32_w]
      rfl
    refine pure_ (i := 17) (N := some 7) (v := ?_) (a' := ?_) #[true, true, true, true, true, true, true, true, true, true, true, true, true, true, true, true, true, true] rfl rfl (by kernel_rfl) (fun _ _ _ h => h) (Or.inl ⟨by rfl, ?_⟩) ?_ ?_
    rotate_left
    · intro w'
      go_simp
      with_reducible rfl
    rotate_left
    · simp only [Act.put, List.setIfInBounds_toArray, List.set_cons_zero, List.set_cons_succ, i64_w, i32_w]
      rfl
    refine done_ (by kernel_rfl) ?_
    have FX := hid (Tree.below XX.out B0.out)
    go_wp2
    go_ret
    exact ⟨_, rfl, FX.out, B0.out⟩
  · rw [if_neg h]
    have ht : ((pathS y.key).toList == (pathS x.key).toList) = false := by rw [str_beq]; simp; intro e; exact h (path_eq.1 e)
    have APW := hid (apart_walk f _ _ _ _ _ _ (TT.out.below B0.out) (Tree.below VV.out B0.out) (Tree.below XX.out B0.out) (HG.out h) HD.out)
    obtain ⟨pa, hpa⟩ : ∃ p, p = pathS y.key := ⟨_, rfl⟩
    obtain ⟨pb, hpb⟩ : ∃ p, p = pathS x.key := ⟨_, rfl⟩
    rw [← hpa] at ca ht
    rw [← hpb] at cb ht
    clear h hpa hpb
    go_enter Tryd.func45, Tryd.ntmps45
    go_wp2
    refine start_ (n := 18) (S := fun w' => w'.cell? ⟨ga, 2, none⟩ = some (.string pa) ∧ w'.cell? ⟨gb, 2, none⟩ = some (.string pb)) (ds := []) #[false, false, false, false, false, false, false, false, false, false, false, false, false, false, false, false, false, false] (by kernel_rfl) rfl rfl ⟨ca, cb⟩ (fun hHeld => ?_)
    refine pure_ (i := 0) (N := some 8) (v := ?_) (a' := ?_) #[true, false, false, false, false, false, false, false, false, false, false, false, false, false, false, false, false, false] rfl rfl (by kernel_rfl) (fun _ _ _ h => h) (Or.inl ⟨by rfl, ?_⟩) ?_ ?_
    rotate_left
    · intro w'
      go_simp
      with_reducible rfl
    rotate_left
    · simp only [Act.put, List.setIfInBounds_toArray, List.set_cons_zero, List.set_cons_succ, i64_w, i32_w]
      rfl
    refine pure_ (i := 1) (N := some 9) (v := ?_) (a' := ?_) #[true, true, false, false, false, false, false, false, false, false, false, false, false, false, false, false, false, false] rfl rfl (by kernel_rfl) (fun _ _ _ h => h) (Or.inl ⟨by rfl, ?_⟩) ?_ ?_
    rotate_left
    · intro w'
      go_simp
      with_reducible rfl
    rotate_left
    · simp only [Act.put, List.setIfInBounds_toArray, List.set_cons_zero, List.set_cons_succ, i64_w, i32_w]
      rfl
    refine pure_ (i := 2) (N := some 10) (v := ?_) (a' := ?_) #[true, true, true, false, false, false, false, false, false, false, false, false, false, false, false, false, false, false] rfl rfl (by kernel_rfl) (fun _ _ _ h => h) (Or.inl ⟨by rfl, ?_⟩) ?_ ?_
    rotate_left
    · intro w'
      go_simp
      with_reducible rfl
    rotate_left
    · simp only [Act.put, List.setIfInBounds_toArray, List.set_cons_zero, List.set_cons_succ, i64_w, i32_w]
      rfl
    refine pure_ (i := 3) (N := some 11) (v := ?_) (a' := ?_) #[true, true, true, true, false, false, false, false, false, false, false, false, false, false, false, false, false, false] rfl rfl (by kernel_rfl) (fun _ _ _ h => h) (Or.inl ⟨by rfl, ?_⟩) ?_ ?_
    rotate_left
    · intro w'
      go_simp
      with_reducible rfl
    rotate_left
    · simp only [Act.put, List.setIfInBounds_toArray, List.set_cons_zero, List.set_cons_succ, i64_w, i32_w]
      rfl
    refine one_ (i := 4) (N := some 12) #[true, true, true, true, true, false, false, false, false, false, false, false, false, false, false, false, false, false] rfl rfl (by kernel_rfl) (by decide) (fun K hK => ?_)
    refine goes_ Tryd.func54 (by kernel_rfl) rfl #[.pointer (some ⟨ga, 0, none⟩)] (by rfl) rfl rfl (by simp only [List.map_toArray, List.map_cons, List.map_nil]; rfl) ?_
    with_reducible refine ((HS.out _ B0.out)).mono ?_
    rintro e' w1 ⟨rfl, rfl⟩
    refine ⟨_, rfl, ?_⟩
    refine hK.out _ _ ⟨hHeld.1, hHeld.2⟩ (fun hHeld => ?_)
    clear hK K
    refine norm_ (a' := ?_) ?_ ?_
    rotate_left
    · show Act.put _ (some 12) _ = _
      simp only [Act.put, List.setIfInBounds_toArray, List.set_cons_zero, List.set_cons_succ, i64_w, i32_w]
      rfl
    refine pure_ (i := 5) (N := some 13) (v := ?_) (a' := ?_) #[true, true, true, true, true, true, false, false, false, false, false, false, false, false, false, false, false, false] rfl rfl (by kernel_rfl) (fun _ _ _ h => h) (Or.inl ⟨by rfl, ?_⟩) ?_ ?_
    rotate_left
    · intro w'
      go_simp
      with_reducible rfl
    rotate_left
    · simp only [Act.put, List.setIfInBounds_toArray, List.set_cons_zero, List.set_cons_succ, i64_w, i32_w]
      rfl
    refine pure_ (i := 6) (N := some 14) (v := ?_) (a' := ?_) #[true, true, true, true, true, true, true, false, false, false, false, false, false, false, false, false, false, false] rfl rfl (by kernel_rfl) (fun _ _ _ h => h) (Or.inl ⟨by rfl, ?_⟩) ?_ ?_
    rotate_left
    · intro w'
      go_simp
      with_reducible rfl
    rotate_left
    · simp only [Act.put, List.setIfInBounds_toArray, List.set_cons_zero, List.set_cons_succ, i64_w, i32_w]
      rfl
    refine pure_ (i := 7) (N := some 15) (v := ?_) (a' := ?_) #[true, true, true, true, true, true, true, true, false, false, false, false, false, false, false, false, false, false] rfl rfl (by kernel_rfl) (fun _ _ _ h => h) (Or.inl ⟨by rfl, ?_⟩) ?_ ?_
    rotate_left
    · intro w'
      go_simp
      with_reducible rfl
    rotate_left
    · simp only [Act.put, List.setIfInBounds_toArray, List.set_cons_zero, List.set_cons_succ, i64_w, i32_w]
      rfl
    refine pure_ (i := 8) (N := some 16) (v := ?_) (a' := ?_) #[true, true, true, true, true, true, true, true, true, false, false, false, false, false, false, false, false, false] rfl rfl (by kernel_rfl) (fun _ _ _ h => h) (Or.inl ⟨by rfl, ?_⟩) ?_ ?_
    rotate_left
    · intro w'
      go_simp
      with_reducible rfl
    rotate_left
    · simp only [Act.put, List.setIfInBounds_toArray, List.set_cons_zero, List.set_cons_succ, i64_w, i32_w]
      rfl
    refine pure_ (i := 10) (N := some 18) (v := ?_) (a' := ?_) #[true, true, true, true, true, true, true, true, true, false, true, false, false, false, false, false, false, false] rfl rfl (by kernel_rfl) (fun _ _ _ h => h) (Or.inl ⟨by rfl, ?_⟩) ?_ ?_
    rotate_left
    · intro w'
      go_simp
      with_reducible rfl
    rotate_left
    · simp only [Act.put, List.setIfInBounds_toArray, List.set_cons_zero, List.set_cons_succ, i64_w, i32_w]
      rfl
    refine pure_ (i := 11) (N := some 19) (v := ?_) (a' := ?_) #[true, true, true, true, true, true, true, true, true, false, true, true, false, false, false, false, false, false] rfl rfl (by kernel_rfl) (fun _ _ _ h => h) (Or.inl ⟨by rfl, ?_⟩) ?_ ?_
    rotate_left
    · intro w'
      go_simp
      with_reducible rfl
    rotate_left
    · simp only [Act.put, List.setIfInBounds_toArray, List.set_cons_zero, List.set_cons_succ, i64_w, i32_w]
      rfl
    refine pure_ (i := 12) (N := some 20) (v := ?_) (a' := ?_) #[true, true, true, true, true, true, true, true, true, false, true, true, true, false, false, false, false, false] rfl rfl (by kernel_rfl) (fun _ _ _ h => h) (Or.inl ⟨by rfl, ?_⟩) ?_ ?_
    rotate_left
    · intro w'
      go_simp
      with_reducible rfl
    rotate_left
    · simp only [Act.put, List.setIfInBounds_toArray, List.set_cons_zero, List.set_cons_succ, i64_w, i32_w]
      rfl
    refine take_ (i := 9) (N := some 17) (v := ?_) (a' := ?_) #[true, true, true, true, true, true, true, true, true, true, true, true, true, false, false, false, false, false] rfl rfl (by kernel_rfl) (fun _ _ _ h => h) (Or.inl ⟨by rfl, ?_⟩) hHeld ?_ ?_
    rotate_left
    · rintro w' ⟨s0, s1⟩
      go_simp
      with_reducible rfl
    rotate_left
    · simp only [Act.put, List.setIfInBounds_toArray, List.set_cons_zero, List.set_cons_succ, i64_w, i32_w]
      rfl
    refine take_ (i := 13) (N := some 21) (v := ?_) (a' := ?_) #[true, true, true, true, true, true, true, true, true, true, true, true, true, true, false, false, false, false] rfl rfl (by kernel_rfl) (fun _ _ _ h => h) (Or.inl ⟨by rfl, ?_⟩) hHeld ?_ ?_
    rotate_left
    · rintro w' ⟨s0, s1⟩
      go_simp
      with_reducible rfl
    rotate_left
    · simp only [Act.put, List.setIfInBounds_toArray, List.set_cons_zero, List.set_cons_succ, i64_w, i32_w]
      rfl
    refine pure_ (i := 14) (N := some 22) (v := ?_) (a' := ?_) #[true, true, true, true, true, true, true, true, true, true, true, true, true, true, true, false, false, false] rfl rfl (by kernel_rfl) (fun _ _ _ h => h) (Or.inl ⟨by rfl, ?_⟩) ?_ ?_
    rotate_left
    · intro w'
      go_simp
      with_reducible rfl
    rotate_left
    · simp only [Act.put, List.setIfInBounds_toArray, List.set_cons_zero, List.set_cons_succ, i64_w, i32_w]
      rfl
    refine pure_ (i := 15) (N := some 23) (v := ?_) (a' := ?_) #[true, true, true, true, true, true, true, true, true, true, true, true, true, true, true, true, false, false] rfl rfl (by kernel_rfl) (fun _ _ _ h => h) (Or.inl ⟨by rfl, ?_⟩) ?_ ?_
    rotate_left
    · intro w'
      go_simp
      with_reducible rfl
    rotate_left
    · simp only [Act.put, List.setIfInBounds_toArray, List.set_cons_zero, List.set_cons_succ, i64_w, i32_w]
      rfl
    refine pure_ (i := 16) (N := some 24) (v := ?_) (a' := ?_) #[true, true, true, true, true, true, true, true, true, true, true, true, true, true, true, true, true, false] rfl rfl (by kernel_rfl) (fun _ _ _ h => h) (Or.inl ⟨by rfl, ?_⟩) ?_ ?_
    rotate_left
    · intro w'
      go_simp
      with_reducible rfl
    rotate_left
    · simp only [Act.put, List.setIfInBounds_toArray, List.set_cons_zero, List.set_cons_succ, i64_w, i32_w]
      rfl
    refine pure_ (i := 17) (N := some 7) (v := ?_) (a' := ?_) #[true, true, true, true, true, true, true, true, true, true, true, true, true, true, true, true, true, true] rfl rfl (by kernel_rfl) (fun _ _ _ h => h) (Or.inl ⟨by rfl, ?_⟩) ?_ ?_
    rotate_left
    · intro w'
      go_simp
      with_reducible rfl
    rotate_left
    · simp only [Act.put, List.setIfInBounds_toArray, List.set_cons_zero, List.set_cons_succ, i64_w, i32_w]
      rfl
    refine done_ (by kernel_rfl) ?_
    have HS2 := hid (HS.out _ B0.out)
    clear ca cb
    go_wp2_with fail
    refine HS2.out.mono ?_
    rintro e w1 ⟨rfl, rfl⟩
    clear HS2
    go_wp2_with fail
    refine APW.out.mono ?_
    rintro e w2 ⟨v2, rfl, t2, b2⟩
    have B2 := below_then B0.out b2
    go_wp2
    go_ret
    exact ⟨v2, rfl, t2, B2⟩

set_option maxRecDepth 100000 in
set_option maxHeartbeats 12800000 in
theorem put_node {w : World} (hT : Table w) {v vx : Value} {l r t' : Tr} {x : Itm} {f d : Nat} (hv : Tree w v (.node l r)) (hx : Tree w vx (.leaf x)) (hd : d + (f + 1) = 256) (fl : Fine l) (fr : Fine r) (ft : Fine t')
    (rec_ : ∀ (w' : World) (v' : Value), Table w' → Tree w' v' (if btK x.key d = 0 then l else r) → Tree w' vx (.leaf x) → Calls Tryd.prog 45 #[v', vx, .int .i64 ((d + 1 : Nat) : Int)] w' (Grew w' t')) :
    Calls Tryd.prog 45 #[v, vx, .int .i64 (d : Int)] w (Grew w (if btK x.key d = 0 then joinT t' r else joinT l t')) := by
  have TT := hid hT
  have VV := hid hv
  have XX := hid hx
  have HS : Hid (∀ w', Below w.heap.size w w' → Calls Tryd.prog 54 #[v] w' fun e w'' => e = .returned (.bool false) ∧ w' = w'') := hid (fun w' h => single_node (Tree.below hv h))
  have HH : Hid (∀ w', Below w.heap.size w w' → Calls Tryd.prog 61 #[v, .string (pathS x.key), .int .i64 (d : Int)] w' fun e w'' => ∃ v', e = .returned v' ∧ Tree w' v' (if btK x.key d = 0 then l else r) ∧ w' = w'') := hid (fun w' h => half_any (by omega) (Tree.below hv h))
  have RC : Hid (∀ (w' : World) (v' : Value), Table w' → Tree w' v' (if btK x.key d = 0 then l else r) → Tree w' vx (.leaf x) → Calls Tryd.prog 45 #[v', vx, .int .i64 ((d : Int) + 1)] w' (Grew w' t')) := hid (by
    intro w' v' h1 h2 h3
    have := rec_ _ _ h1 h2 h3
    rwa [show ((d + 1 : Nat) : Int) = (d : Int) + 1 by omega] at this)
  have HW : Hid (∀ w' v', Below w.heap.size w w' → Table w' → Tree w' v' t' → Calls Tryd.prog 60 #[v, .string (pathS x.key), .int .i64 (d : Int), v'] w' (Grew w' (if btK x.key d = 0 then joinT t' r else joinT l t'))) := hid (fun w' v' h h1 h2 => with_any h1 (by omega) (Tree.below hv h) h2 fl fr ft)
  obtain ⟨ga, va, vb, rfl, _⟩ := hv
  obtain ⟨gb, Bb, db, rfl, _, h3b, _⟩ := hx
  obtain ⟨-, -, cb, -, -, -, -⟩ := seven h3b
  have B0 := hid (show Below w.heap.size w w.drew from (Below.refl _ _).drew)
  have B00 := hid (show Below w.heap.size w w.drew.drew from (Below.refl _ _).drew.drew)
  obtain ⟨p, hp⟩ : ∃ p, p = pathS x.key := ⟨_, rfl⟩
  rw [← hp] at cb HH HW
  have hdb : d ≤ 256 := by omega
  have wd2 : IntKind.i64.wrap ((d : Int) + 1) = (d : Int) + 1 := IntWalk.i64_in _ (by omega)
  have wd1 : wrap64 ((d : Int) + 1) = (d : Int) + 1 := by unfold wrap64; omega
  have T2 := hid (TT.out.below B00.out)
  have V2 := hid (Tree.below XX.out B00.out)
  have HH2 := hid (HH.out _ B00.out)
  clear hT h3b hp rec_ fl fr ft hd
  generalize (if btK x.key d = 0 then joinT t' r else joinT l t') = RR at *
  generalize (if btK x.key d = 0 then l else r) = HF at *
  go_enter Tryd.func45, Tryd.ntmps45
  go_wp2
  refine start_ (n := 18) (S := fun w' => w'.cell? ⟨gb, 2, none⟩ = some (.string p)) (ds := []) #[false, false, false, false, false, false, false, false, false, false, false, false, false, false, false, false, false, false] (by kernel_rfl) rfl rfl (cb) (fun hHeld => ?_)
  refine pure_ (i := 0) (N := some 8) (v := ?_) (a' := ?_) #[true, false, false, false, false, false, false, false, false, false, false, false, false, false, false, false, false, false] rfl rfl (by kernel_rfl) (fun _ _ _ h => h) (Or.inl ⟨by rfl, ?_⟩) ?_ ?_
  rotate_left
  · intro w'
    go_simp
    with_reducible rfl
  rotate_left
  · simp only [Act.put, List.setIfInBounds_toArray, List.set_cons_zero, List.set_cons_succ, i64_w, i32_w]
    rfl
  refine pure_ (i := 1) (N := some 9) (v := ?_) (a' := ?_) #[true, true, false, false, false, false, false, false, false, false, false, false, false, false, false, false, false, false] rfl rfl (by kernel_rfl) (fun _ _ _ h => h) (Or.inl ⟨by rfl, ?_⟩) ?_ ?_
  rotate_left
  · intro w'
    go_simp
    with_reducible rfl
  rotate_left
  · simp only [Act.put, List.setIfInBounds_toArray, List.set_cons_zero, List.set_cons_succ, i64_w, i32_w]
    rfl
  refine pure_ (i := 2) (N := some 10) (v := ?_) (a' := ?_) #[true, true, true, false, false, false, false, false, false, false, false, false, false, false, false, false, false, false] rfl rfl (by kernel_rfl) (fun _ _ _ h => h) (Or.inl ⟨by rfl, ?_⟩) ?_ ?_
  rotate_left
  · intro w'
    go_simp
    with_reducible rfl
  rotate_left
  · simp only [Act.put, List.setIfInBounds_toArray, List.set_cons_zero, List.set_cons_succ, i64_w, i32_w]
    rfl
  refine pure_ (i := 3) (N := some 11) (v := ?_) (a' := ?_) #[true, true, true, true, false, false, false, false, false, false, false, false, false, false, false, false, false, false] rfl rfl (by kernel_rfl) (fun _ _ _ h => h) (Or.inl ⟨by rfl, ?_⟩) ?_ ?_
  rotate_left
  · intro w'
    go_simp
    with_reducible rfl
  rotate_left
  · simp only [Act.put, List.setIfInBounds_toArray, List.set_cons_zero, List.set_cons_succ, i64_w, i32_w]
    rfl
  refine one_ (i := 4) (N := some 12) #[true, true, true, true, true, false, false, false, false, false, false, false, false, false, false, false, false, false] rfl rfl (by kernel_rfl) (by decide) (fun K hK => ?_)
  refine goes_ Tryd.func54 (by kernel_rfl) rfl #[.pointer (some ⟨ga, 0, none⟩)] (by rfl) rfl rfl (by simp only [List.map_toArray, List.map_cons, List.map_nil]; rfl) ?_
  with_reducible refine ((HS.out _ B0.out)).mono ?_
  rintro e' w1 ⟨rfl, rfl⟩
  refine ⟨_, rfl, ?_⟩
  refine hK.out _ _ (hHeld) (fun hHeld => ?_)
  clear hK K
  refine norm_ (a' := ?_) ?_ ?_
  rotate_left
  · show Act.put _ (some 12) _ = _
    simp only [Act.put, List.setIfInBounds_toArray, List.set_cons_zero, List.set_cons_succ, i64_w, i32_w]
    rfl
  refine pure_ (i := 5) (N := some 13) (v := ?_) (a' := ?_) #[true, true, true, true, true, true, false, false, false, false, false, false, false, false, false, false, false, false] rfl rfl (by kernel_rfl) (fun _ _ _ h => h) (Or.inl ⟨by rfl, ?_⟩) ?_ ?_
  rotate_left
  · intro w'
    go_simp
    with_reducible rfl
  rotate_left
  · simp only [Act.put, List.setIfInBounds_toArray, List.set_cons_zero, List.set_cons_succ, i64_w, i32_w]
    rfl
  refine pure_ (i := 6) (N := some 14) (v := undef) (a' := ?_) #[true, true, true, true, true, true, true, false, false, false, false, false, false, false, false, false, false, false] rfl rfl (by kernel_rfl) (fun _ _ _ h => h) (Or.inr ⟨by rfl, rfl⟩) ?_ ?_
  rotate_left
  · simp only [Act.put, List.setIfInBounds_toArray, List.set_cons_zero, List.set_cons_succ, i64_w, i32_w]
    rfl
  refine pure_ (i := 7) (N := some 15) (v := undef) (a' := ?_) #[true, true, true, true, true, true, true, true, false, false, false, false, false, false, false, false, false, false] rfl rfl (by kernel_rfl) (fun _ _ _ h => h) (Or.inr ⟨by rfl, rfl⟩) ?_ ?_
  rotate_left
  · simp only [Act.put, List.setIfInBounds_toArray, List.set_cons_zero, List.set_cons_succ, i64_w, i32_w]
    rfl
  refine pure_ (i := 8) (N := some 16) (v := undef) (a' := ?_) #[true, true, true, true, true, true, true, true, true, false, false, false, false, false, false, false, false, false] rfl rfl (by kernel_rfl) (fun _ _ _ h => h) (Or.inr ⟨by rfl, rfl⟩) ?_ ?_
  rotate_left
  · simp only [Act.put, List.setIfInBounds_toArray, List.set_cons_zero, List.set_cons_succ, i64_w, i32_w]
    rfl
  refine pure_ (i := 9) (N := some 17) (v := undef) (a' := ?_) #[true, true, true, true, true, true, true, true, true, true, false, false, false, false, false, false, false, false] rfl rfl (by kernel_rfl) (fun _ _ _ h => h) (Or.inr ⟨by rfl, rfl⟩) ?_ ?_
  rotate_left
  · simp only [Act.put, List.setIfInBounds_toArray, List.set_cons_zero, List.set_cons_succ, i64_w, i32_w]
    rfl
  refine pure_ (i := 10) (N := some 18) (v := undef) (a' := ?_) #[true, true, true, true, true, true, true, true, true, true, true, false, false, false, false, false, false, false] rfl rfl (by kernel_rfl) (fun _ _ _ h => h) (Or.inr ⟨by rfl, rfl⟩) ?_ ?_
  rotate_left
  · simp only [Act.put, List.setIfInBounds_toArray, List.set_cons_zero, List.set_cons_succ, i64_w, i32_w]
    rfl
  refine pure_ (i := 11) (N := some 19) (v := undef) (a' := ?_) #[true, true, true, true, true, true, true, true, true, true, true, true, false, false, false, false, false, false] rfl rfl (by kernel_rfl) (fun _ _ _ h => h) (Or.inr ⟨by rfl, rfl⟩) ?_ ?_
  rotate_left
  · simp only [Act.put, List.setIfInBounds_toArray, List.set_cons_zero, List.set_cons_succ, i64_w, i32_w]
    rfl
  refine pure_ (i := 12) (N := some 20) (v := undef) (a' := ?_) #[true, true, true, true, true, true, true, true, true, true, true, true, true, false, false, false, false, false] rfl rfl (by kernel_rfl) (fun _ _ _ h => h) (Or.inr ⟨by rfl, rfl⟩) ?_ ?_
  rotate_left
  · simp only [Act.put, List.setIfInBounds_toArray, List.set_cons_zero, List.set_cons_succ, i64_w, i32_w]
    rfl
  refine pure_ (i := 13) (N := some 21) (v := undef) (a' := ?_) #[true, true, true, true, true, true, true, true, true, true, true, true, true, true, false, false, false, false] rfl rfl (by kernel_rfl) (fun _ _ _ h => h) (Or.inr ⟨by rfl, rfl⟩) ?_ ?_
  rotate_left
  · simp only [Act.put, List.setIfInBounds_toArray, List.set_cons_zero, List.set_cons_succ, i64_w, i32_w]
    rfl
  refine pure_ (i := 14) (N := some 22) (v := undef) (a' := ?_) #[true, true, true, true, true, true, true, true, true, true, true, true, true, true, true, false, false, false] rfl rfl (by kernel_rfl) (fun _ _ _ h => h) (Or.inr ⟨by rfl, rfl⟩) ?_ ?_
  rotate_left
  · simp only [Act.put, List.setIfInBounds_toArray, List.set_cons_zero, List.set_cons_succ, i64_w, i32_w]
    rfl
  refine pure_ (i := 15) (N := some 23) (v := ?_) (a' := ?_) #[true, true, true, true, true, true, true, true, true, true, true, true, true, true, true, true, false, false] rfl rfl (by kernel_rfl) (fun _ _ _ h => h) (Or.inl ⟨by rfl, ?_⟩) ?_ ?_
  rotate_left
  · intro w'
    go_simp
    with_reducible rfl
  rotate_left
  · simp only [Act.put, List.setIfInBounds_toArray, List.set_cons_zero, List.set_cons_succ, i64_w, i32_w]
    rfl
  refine pure_ (i := 16) (N := some 24) (v := ?_) (a' := ?_) #[true, true, true, true, true, true, true, true, true, true, true, true, true, true, true, true, true, false] rfl rfl (by kernel_rfl) (fun _ _ _ h => h) (Or.inl ⟨by rfl, ?_⟩) ?_ ?_
  rotate_left
  · intro w'
    go_simp
    with_reducible rfl
  rotate_left
  · simp only [Act.put, List.setIfInBounds_toArray, List.set_cons_zero, List.set_cons_succ, i64_w, i32_w]
    rfl
  refine pure_ (i := 17) (N := some 7) (v := ?_) (a' := ?_) #[true, true, true, true, true, true, true, true, true, true, true, true, true, true, true, true, true, true] rfl rfl (by kernel_rfl) (fun _ _ _ h => h) (Or.inl ⟨by rfl, ?_⟩) ?_ ?_
  rotate_left
  · intro w'
    go_simp
    with_reducible rfl
  rotate_left
  · simp only [Act.put, List.setIfInBounds_toArray, List.set_cons_zero, List.set_cons_succ, i64_w, i32_w]
    rfl
  refine done_ (by kernel_rfl) ?_
  have HS2 := hid (HS.out _ B0.out)
  clear cb
  go_wp2_with fail
  refine HS2.out.mono ?_
  rintro e w1 ⟨rfl, rfl⟩
  have cb : w.drew.cell? ⟨gb, 2, none⟩ = some (.string p) := by first | exact hHeld | assumption
  clear HS2
  go_wp2
  refine start_ (n := 19) (S := fun w' => w'.cell? ⟨gb, 2, none⟩ = some (.string p)) (ds := []) #[false, false, false, false, false, false, false, false, false, false, false, false, false, false, false, false, false, false, false] (by kernel_rfl) rfl rfl (cb) (fun hHeld => ?_)
  refine pure_ (i := 0) (N := some 33) (v := ?_) (a' := ?_) #[true, false, false, false, false, false, false, false, false, false, false, false, false, false, false, false, false, false, false] rfl rfl (by kernel_rfl) (fun _ _ _ h => h) (Or.inl ⟨by rfl, ?_⟩) ?_ ?_
  rotate_left
  · intro w'
    go_simp
    with_reducible rfl
  rotate_left
  · simp only [Act.put, List.setIfInBounds_toArray, List.set_cons_zero, List.set_cons_succ, i64_w, i32_w]
    rfl
  refine pure_ (i := 1) (N := some 34) (v := ?_) (a' := ?_) #[true, true, false, false, false, false, false, false, false, false, false, false, false, false, false, false, false, false, false] rfl rfl (by kernel_rfl) (fun _ _ _ h => h) (Or.inl ⟨by rfl, ?_⟩) ?_ ?_
  rotate_left
  · intro w'
    go_simp
    with_reducible rfl
  rotate_left
  · simp only [Act.put, List.setIfInBounds_toArray, List.set_cons_zero, List.set_cons_succ, i64_w, i32_w]
    rfl
  refine pure_ (i := 2) (N := some 35) (v := ?_) (a' := ?_) #[true, true, true, false, false, false, false, false, false, false, false, false, false, false, false, false, false, false, false] rfl rfl (by kernel_rfl) (fun _ _ _ h => h) (Or.inl ⟨by rfl, ?_⟩) ?_ ?_
  rotate_left
  · intro w'
    go_simp
    with_reducible rfl
  rotate_left
  · simp only [Act.put, List.setIfInBounds_toArray, List.set_cons_zero, List.set_cons_succ, i64_w, i32_w]
    rfl
  refine pure_ (i := 3) (N := some 36) (v := ?_) (a' := ?_) #[true, true, true, true, false, false, false, false, false, false, false, false, false, false, false, false, false, false, false] rfl rfl (by kernel_rfl) (fun _ _ _ h => h) (Or.inl ⟨by rfl, ?_⟩) ?_ ?_
  rotate_left
  · intro w'
    go_simp
    with_reducible rfl
  rotate_left
  · simp only [Act.put, List.setIfInBounds_toArray, List.set_cons_zero, List.set_cons_succ, i64_w, i32_w]
    rfl
  refine pure_ (i := 5) (N := some 38) (v := ?_) (a' := ?_) #[true, true, true, true, false, true, false, false, false, false, false, false, false, false, false, false, false, false, false] rfl rfl (by kernel_rfl) (fun _ _ _ h => h) (Or.inl ⟨by rfl, ?_⟩) ?_ ?_
  rotate_left
  · intro w'
    go_simp
    with_reducible rfl
  rotate_left
  · simp only [Act.put, List.setIfInBounds_toArray, List.set_cons_zero, List.set_cons_succ, i64_w, i32_w]
    rfl
  refine pure_ (i := 6) (N := some 39) (v := ?_) (a' := ?_) #[true, true, true, true, false, true, true, false, false, false, false, false, false, false, false, false, false, false, false] rfl rfl (by kernel_rfl) (fun _ _ _ h => h) (Or.inl ⟨by rfl, ?_⟩) ?_ ?_
  rotate_left
  · intro w'
    go_simp
    with_reducible rfl
  rotate_left
  · simp only [Act.put, List.setIfInBounds_toArray, List.set_cons_zero, List.set_cons_succ, i64_w, i32_w]
    rfl
  refine pure_ (i := 7) (N := some 40) (v := ?_) (a' := ?_) #[true, true, true, true, false, true, true, true, false, false, false, false, false, false, false, false, false, false, false] rfl rfl (by kernel_rfl) (fun _ _ _ h => h) (Or.inl ⟨by rfl, ?_⟩) ?_ ?_
  rotate_left
  · intro w'
    go_simp
    with_reducible rfl
  rotate_left
  · simp only [Act.put, List.setIfInBounds_toArray, List.set_cons_zero, List.set_cons_succ, i64_w, i32_w]
    rfl
  refine pure_ (i := 8) (N := some 41) (v := ?_) (a' := ?_) #[true, true, true, true, false, true, true, true, true, false, false, false, false, false, false, false, false, false, false] rfl rfl (by kernel_rfl) (fun _ _ _ h => h) (Or.inl ⟨by rfl, ?_⟩) ?_ ?_
  rotate_left
  · intro w'
    go_simp
    with_reducible rfl
  rotate_left
  · simp only [Act.put, List.setIfInBounds_toArray, List.set_cons_zero, List.set_cons_succ, i64_w, i32_w]
    rfl
  refine pure_ (i := 9) (N := some 42) (v := ?_) (a' := ?_) #[true, true, true, true, false, true, true, true, true, true, false, false, false, false, false, false, false, false, false] rfl rfl (by kernel_rfl) (fun _ _ _ h => h) (Or.inl ⟨by rfl, ?_⟩) ?_ ?_
  rotate_left
  · intro w'
    go_simp
    with_reducible rfl
  rotate_left
  · simp only [Act.put, List.setIfInBounds_toArray, List.set_cons_zero, List.set_cons_succ, i64_w, i32_w]
    rfl
  refine pure_ (i := 11) (N := some 44) (v := ?_) (a' := ?_) #[true, true, true, true, false, true, true, true, true, true, false, true, false, false, false, false, false, false, false] rfl rfl (by kernel_rfl) (fun _ _ _ h => h) (Or.inl ⟨by rfl, ?_⟩) ?_ ?_
  rotate_left
  · intro w'
    go_simp
    with_reducible rfl
  rotate_left
  · simp only [Act.put, List.setIfInBounds_toArray, List.set_cons_zero, List.set_cons_succ, i64_w, i32_w]
    rfl
  refine pure_ (i := 13) (N := some 46) (v := ?_) (a' := ?_) #[true, true, true, true, false, true, true, true, true, true, false, true, false, true, false, false, false, false, false] rfl rfl (by kernel_rfl) (fun _ _ _ h => h) (Or.inl ⟨by rfl, ?_⟩) ?_ ?_
  rotate_left
  · intro w'
    go_simp
    with_reducible rfl
  rotate_left
  · simp only [Act.put, List.setIfInBounds_toArray, List.set_cons_zero, List.set_cons_succ, i64_w, i32_w]
    rfl
  refine pure_ (i := 14) (N := some 47) (v := ?_) (a' := ?_) #[true, true, true, true, false, true, true, true, true, true, false, true, false, true, true, false, false, false, false] rfl rfl (by kernel_rfl) (fun _ _ _ h => h) (Or.inl ⟨by rfl, ?_⟩) ?_ ?_
  rotate_left
  · intro w'
    go_simp
    with_reducible rfl
  rotate_left
  · simp only [Act.put, List.setIfInBounds_toArray, List.set_cons_zero, List.set_cons_succ, i64_w, i32_w]
    rfl
  refine pure_ (i := 15) (N := some 48) (v := ?_) (a' := ?_) #[true, true, true, true, false, true, true, true, true, true, false, true, false, true, true, true, false, false, false] rfl rfl (by kernel_rfl) (fun _ _ _ h => h) (Or.inl ⟨by rfl, ?_⟩) ?_ ?_
  rotate_left
  · intro w'
    go_simp
    with_reducible rfl
  rotate_left
  · simp only [Act.put, List.setIfInBounds_toArray, List.set_cons_zero, List.set_cons_succ, i64_w, i32_w]
    rfl
  refine take_ (i := 4) (N := some 37) (v := ?_) (a' := ?_) #[true, true, true, true, true, true, true, true, true, true, false, true, false, true, true, true, false, false, false] rfl rfl (by kernel_rfl) (fun _ _ _ h => h) (Or.inl ⟨by rfl, ?_⟩) hHeld ?_ ?_
  rotate_left
  · intro w' s0
    go_simp
    with_reducible rfl
  rotate_left
  · simp only [Act.put, List.setIfInBounds_toArray, List.set_cons_zero, List.set_cons_succ, i64_w, i32_w]
    rfl
  refine take_ (i := 10) (N := some 43) (v := ?_) (a' := ?_) #[true, true, true, true, true, true, true, true, true, true, true, true, false, true, true, true, false, false, false] rfl rfl (by kernel_rfl) (fun _ _ _ h => h) (Or.inl ⟨by rfl, ?_⟩) hHeld ?_ ?_
  rotate_left
  · intro w' s0
    go_simp
    with_reducible rfl
  rotate_left
  · simp only [Act.put, List.setIfInBounds_toArray, List.set_cons_zero, List.set_cons_succ, i64_w, i32_w]
    rfl
  refine one_ (i := 12) (N := some 45) #[true, true, true, true, true, true, true, true, true, true, true, true, true, true, true, true, false, false, false] rfl rfl (by kernel_rfl) (by decide) (fun K hK => ?_)
  refine goes_ Tryd.func61 (by kernel_rfl) rfl #[.pointer (some ⟨ga, 0, none⟩), .string p, .int .i64 (d : Int)] (by rfl) rfl rfl (by simp only [List.map_toArray, List.map_cons, List.map_nil]; rfl) ?_
  with_reducible refine (HH2.out).mono ?_
  rintro e' w2 ⟨v2, rfl, t2, rfl⟩
  refine ⟨_, rfl, ?_⟩
  refine hK.out _ _ (hHeld) (fun hHeld => ?_)
  clear hK K
  refine norm_ (a' := ?_) ?_ ?_
  rotate_left
  · show Act.put _ (some 45) _ = _
    simp only [Act.put, List.setIfInBounds_toArray, List.set_cons_zero, List.set_cons_succ, i64_w, i32_w]
    rfl
  refine one_ (i := 16) (N := some 49) #[true, true, true, true, true, true, true, true, true, true, true, true, true, true, true, true, true, false, false] rfl rfl (by kernel_rfl) (by decide) (fun K hK => ?_)
  have RC2 := hid (RC.out _ _ T2.out t2 V2.out)
  refine goes_ Tryd.func45 (by kernel_rfl) rfl #[v2, .pointer (some ⟨gb, 0, none⟩), .int .i64 ((d : Int) + 1)] (by rfl) rfl rfl (by simp only [List.map_toArray, List.map_cons, List.map_nil]; rfl) ?_
  with_reducible refine (RC2.out).mono ?_
  rintro e' w3 ⟨v3, rfl, t3, b3⟩
  refine ⟨_, rfl, ?_⟩
  have B3 := below_then B00.out b3
  refine hK.out _ _ ((below_cell b3 hHeld)) (fun hHeld => ?_)
  clear hK K
  refine norm_ (a' := ?_) ?_ ?_
  rotate_left
  · show Act.put _ (some 49) _ = _
    simp only [Act.put, List.setIfInBounds_toArray, List.set_cons_zero, List.set_cons_succ, i64_w, i32_w]
    rfl
  refine one_ (i := 17) (N := some 50) #[true, true, true, true, true, true, true, true, true, true, true, true, true, true, true, true, true, true, false] rfl rfl (by kernel_rfl) (by decide) (fun K hK => ?_)
  have HW2 := hid (HW.out _ _ B3 (TT.out.below B3) t3)
  refine goes_ Tryd.func60 (by kernel_rfl) rfl #[.pointer (some ⟨ga, 0, none⟩), .string p, .int .i64 (d : Int), v3] (by rfl) rfl rfl (by simp only [List.map_toArray, List.map_cons, List.map_nil]; rfl) ?_
  with_reducible refine (HW2.out).mono ?_
  rintro e' w4 ⟨v4, rfl, t4, b4⟩
  refine ⟨_, rfl, ?_⟩
  have B4 := below_then B3 b4
  refine hK.out _ _ ((below_cell b4 hHeld)) (fun hHeld => ?_)
  clear hK K
  refine norm_ (a' := ?_) ?_ ?_
  rotate_left
  · show Act.put _ (some 50) _ = _
    simp only [Act.put, List.setIfInBounds_toArray, List.set_cons_zero, List.set_cons_succ, i64_w, i32_w]
    rfl
  refine pure_ (i := 18) (N := some 6) (v := ?_) (a' := ?_) #[true, true, true, true, true, true, true, true, true, true, true, true, true, true, true, true, true, true, true] rfl rfl (by kernel_rfl) (fun _ _ _ h => h) (Or.inl ⟨by rfl, ?_⟩) ?_ ?_
  rotate_left
  · intro w'
    go_simp
    with_reducible rfl
  rotate_left
  · simp only [Act.put, List.setIfInBounds_toArray, List.set_cons_zero, List.set_cons_succ, i64_w, i32_w]
    rfl
  refine done_ (by kernel_rfl) ?_
  have FIN := hid (And.intro t4 B4)
  clear t2 t3 b3 b4 t4 B3 B4
  go_wp2
  go_ret
  exact ⟨v4, rfl, FIN.out.1, FIN.out.2⟩
end Go.Proofs.YtmbgfjcmdolggaaDoor

/- The walks of put and del, by the depth; of Put, Del. -/
namespace Go.Proofs.YtmbgfjcmdolggaaDoor
open Go.RowKit PrintLast

theorem putI_same {y x : Itm} (h : y.key = x.key) : putI [y] x = [x] := by unfold putI; rw [List.filter_cons, if_neg (by simp [h])]; rfl
theorem putI_other {y x : Itm} (h : y.key ≠ x.key) : putI [y] x = [x, y] := by unfold putI; rw [List.filter_cons, if_pos (by simp [h])]; rfl
theorem putI_length (l : List Itm) (x : Itm) : (putI l x).length ≤ l.length + 1 := by
  unfold putI
  rw [List.length_cons]
  have := List.length_filter_le (fun y : Itm => decide (y.key ≠ x.key)) l
  omega
theorem put_one {w : World} (hT : Table w) {v vx : Value} {y x : Itm} {f d : Nat} (hv : Tree w v (treeF f [y])) (hx : Tree w vx (.leaf x)) (hd : d + f = 256) (hp : Good f (putI [y] x)) (ht : Tells [y] x.key) :
    Calls Tryd.prog 45 #[v, vx, .int .i64 (d : Int)] w (Grew w (treeF f (putI [y] x))) := by
  rw [treeF_one] at hv
  have hs : [x, y].Perm [y, x] := List.Perm.swap y x []
  refine (put_leaf hT hv hx hd (fun h => ?_)).mono fun e w' h => h.cast ?_
  · have hk : y.key ≠ x.key := fun e => h (by rw [e])
    rw [putI_other hk] at hp
    exact hp.perm hs
  · by_cases h : pathK y.key = pathK x.key
    · rw [if_pos h, putI_same (ht y (by simp) h), treeF_one]
    · have hk : y.key ≠ x.key := fun e => h (by rw [e])
      rw [putI_other hk] at hp ⊢
      rw [if_neg h, treeF_perm f hp (by omega) hs]
theorem put_none {w : World} {v vx : Value} {x : Itm} {f : Nat} {d : Int} (hv : Tree w v (treeF f [])) (hx : Tree w vx (.leaf x)) :
    Calls Tryd.prog 45 #[v, vx, .int .i64 d] w (Grew w (treeF f (putI [] x))) := by
  rw [treeF_nil] at hv
  cases hv
  refine put_nil.mono fun e w' ⟨h1, h2⟩ => ⟨vx, h1, ?_, h2⟩
  show Tree w' vx (treeF f [x])
  rw [treeF_one]
  exact Tree.below hx h2
theorem put_walk (f : Nat) : ∀ (w : World) (v vx : Value) (l : List Itm) (x : Itm) (d : Nat), Table w → Tree w v (treeF f l) → Tree w vx (.leaf x) → Good f l → Good f (putI l x) → Tells l x.key → d + f = 256 → l.length ≤ 1000000 →
    Calls Tryd.prog 45 #[v, vx, .int .i64 (d : Int)] w (Grew w (treeF f (putI l x))) := by
  induction f with
  | zero =>
    intro w v vx l x d hT hv hx hg hp ht hd _
    match l, hg.few with
    | [], _ => exact put_none hv hx
    | [y], _ => exact put_one hT hv hx hd hp ht
  | succ f ih =>
    intro w v vx l x d hT hv hx hg hp ht hd hl
    by_cases h2 : 2 ≤ l.length
    · have hdf : 255 - f = d := by omega
      rw [treeF_big f l h2, hdf] at hv
      have J := join_tree hp (by omega)
      have g0 := hg.half 0 (by omega)
      have g1 := hg.half 1 (by omega)
      have p0 := hp.half 0 (by omega)
      have p1 := hp.half 1 (by omega)
      rw [hdf] at J g0 g1 p0 p1
      have L0 := halfI_length_le l d 0
      have L1 := halfI_length_le l d 1
      have F0 := fine_tree (show f ≤ 256 by omega) g0 (by omega)
      have F1 := fine_tree (show f ≤ 256 by omega) g1 (by omega)
      rcases btK_two x.key d with hb | hb
      · have e1 : halfI (putI l x) d 1 = halfI l d 1 := half_put_other (by rw [hb]; decide)
        rw [half_put_same hb] at J p0
        rw [e1] at J
        have FX := fine_tree (show f ≤ 256 by omega) p0 (by have := putI_length (halfI l d 0) x; omega)
        refine (put_node hT hv hx hd F0 F1 FX (fun w' v' h1 h2 h3 => ?_)).mono fun e w' h => h.cast ?_
        · rw [if_pos hb] at h2
          exact ih w' v' vx _ x (d + 1) h1 h2 h3 g0 p0 (fun y hy => ht y (half_mem.1 hy).1) (by omega) (by omega)
        · rw [if_pos hb]; exact J
      · have e0 : halfI (putI l x) d 0 = halfI l d 0 := half_put_other (by rw [hb]; decide)
        rw [half_put_same hb] at J p1
        rw [e0] at J
        have FX := fine_tree (show f ≤ 256 by omega) p1 (by have := putI_length (halfI l d 1) x; omega)
        refine (put_node hT hv hx hd F0 F1 FX (fun w' v' h1 h2 h3 => ?_)).mono fun e w' h => h.cast ?_
        · rw [if_neg (by rw [hb]; decide)] at h2
          exact ih w' v' vx _ x (d + 1) h1 h2 h3 g1 p1 (fun y hy => ht y (half_mem.1 hy).1) (by omega) (by omega)
        · rw [if_neg (by rw [hb]; decide)]; exact J
    · match l, h2 with
      | [], _ => exact put_none hv hx
      | [y], _ => exact put_one hT hv hx hd hp ht
      | x :: y :: l, h2 => simp at h2

set_option maxHeartbeats 3200000 in
theorem Put_any {w : World} (hT : Table w) {v : Value} {l : List Itm} {key : ByteArray} {A : Option Addr} {c n : Nat} {row : List UInt8} (hv : Tree w v (treeF 256 l)) (hk : key.size ≤ 1000000) (hn : row.length = n) (hr : n ≤ 1000000) (hA : BSA w A c row) (hg : Good 256 l) (hp : Good 256 (putI l ⟨key, row⟩)) (ht : Tells l key) (hl : l.length ≤ 1000000) :
    Calls Tryd.prog 24 #[v, .string key, .slice A n c] w (Grew w (treeF 256 (putI l ⟨key, row⟩))) := by
  have H := hid (leaf_new hT hk hn hr hA)
  have TT := hid hT
  have VV := hid hv
  have GG := hid (And.intro hg (And.intro hp ht))
  clear hT hv hA hn hg hp ht
  go_enter Tryd.func24, Tryd.ntmps24
  go_wp2_with fail
  refine H.out.mono ?_
  rintro e w1 ⟨v1, rfl, t1, b1⟩
  have P0 : Calls Tryd.prog 45 #[v, v1, .int .i64 0] w1 (Grew w1 (treeF 256 (putI l ⟨key, row⟩))) := put_walk 256 w1 v v1 l ⟨key, row⟩ 0 (TT.out.below b1) (Tree.below VV.out b1) t1 GG.out.1 GG.out.2.1 GG.out.2.2 (by omega) hl
  have P := hid P0
  clear P0 t1 H
  go_wp2_with fail
  refine P.out.mono ?_
  rintro e w2 ⟨v2, rfl, t2, b2⟩
  have B2 := below_then b1 b2
  go_wp2
  go_ret
  exact ⟨v2, rfl, t2, B2⟩

/-! ### del -/
set_option maxHeartbeats 3200000 in
theorem del_nil {w : World} {k p : ByteArray} {d : Int} : Calls Tryd.prog 66 #[.pointer none, .string k, .string p, .int .i64 d] w (Grew w .nil) := by
  go_enter Tryd.func66, Tryd.ntmps66
  go_wp2
  go_ret
  exact ⟨_, rfl, Tree.nil w, Below.refl _ _⟩
set_option maxHeartbeats 3200000 in
theorem del_leaf {w : World} {v : Value} {y : Itm} {k p : ByteArray} {d : Int} (hv : Tree w v (.leaf y)) :
    Calls Tryd.prog 66 #[v, .string k, .string p, .int .i64 d] w (Grew w (if y.key = k then .nil else .leaf y)) := by
  have H := hid (single_leaf hv)
  have VV := hid hv
  obtain ⟨ga, Ba, da, rfl, _, h3a, _⟩ := hv
  obtain ⟨-, -, -, ca, -, -, -⟩ := seven h3a
  have B0 := hid (Below.refl w.heap.size w)
  by_cases h : y.key = k
  · have ht : (y.key.toList == k.toList) = true := by rw [h]; simp
    rw [if_pos h]
    obtain ⟨yk, hyk⟩ : ∃ yk, yk = y.key := ⟨_, rfl⟩
    rw [← hyk] at ca ht
    clear h3a h hyk
    go_enter Tryd.func66, Tryd.ntmps66
    go_wp2_with fail
    refine H.out.mono ?_
    rintro e w1 ⟨rfl, rfl⟩
    go_wp2
    go_ret
    exact ⟨_, rfl, Tree.nil w, B0.out⟩
  · have ht : (y.key.toList == k.toList) = false := by rw [str_beq]; simp [h]
    rw [if_neg h]
    obtain ⟨yk, hyk⟩ : ∃ yk, yk = y.key := ⟨_, rfl⟩
    rw [← hyk] at ca ht
    clear h3a h hyk
    go_enter Tryd.func66, Tryd.ntmps66
    go_wp2_with fail
    refine H.out.mono ?_
    rintro e w1 ⟨rfl, rfl⟩
    go_wp2_with fail
    refine H.out.mono ?_
    rintro e w1 ⟨rfl, rfl⟩
    go_wp2
    go_ret
    exact ⟨_, rfl, VV.out, B0.out⟩
set_option maxRecDepth 100000 in
set_option maxHeartbeats 6400000 in
theorem del_node {w : World} (hT : Table w) {v : Value} {l r t' : Tr} {k : ByteArray} {f d : Nat} (hv : Tree w v (.node l r)) (hd : d + (f + 1) = 256) (fl : Fine l) (fr : Fine r) (ft : Fine t')
    (rec_ : ∀ (w' : World) (v' : Value), Table w' → Tree w' v' (if btK k d = 0 then l else r) → Calls Tryd.prog 66 #[v', .string k, .string (pathS k), .int .i64 ((d + 1 : Nat) : Int)] w' (Grew w' t')) :
    Calls Tryd.prog 66 #[v, .string k, .string (pathS k), .int .i64 (d : Int)] w (Grew w (if btK k d = 0 then joinT t' r else joinT l t')) := by
  have HS := hid (single_node hv)
  have HH := hid (half_any (k := k) (d := d) (by omega) hv)
  have TT := hid hT
  have RC : Hid (∀ (w' : World) (v' : Value), Table w' → Tree w' v' (if btK k d = 0 then l else r) → Calls Tryd.prog 66 #[v', .string k, .string (pathS k), .int .i64 ((d : Int) + 1)] w' (Grew w' t')) := hid (by
    intro w' v' h1 h2
    have := rec_ _ _ h1 h2
    rwa [show ((d + 1 : Nat) : Int) = (d : Int) + 1 by omega] at this)
  have HW : Hid (∀ w' v', Below w.heap.size w w' → Table w' → Tree w' v' t' → Calls Tryd.prog 60 #[v, .string (pathS k), .int .i64 (d : Int), v'] w' (Grew w' (if btK k d = 0 then joinT t' r else joinT l t'))) := hid (fun w' v' h h1 h2 => with_any h1 (by omega) (Tree.below hv h) h2 fl fr ft)
  obtain ⟨ga, va, vb, rfl, _⟩ := hv
  have hdb : d ≤ 256 := by omega
  generalize pathS k = p at *
  clear hT rec_ fl fr ft hd
  generalize (if btK k d = 0 then joinT t' r else joinT l t') = RR at *
  generalize (if btK k d = 0 then l else r) = HF at *
  go_enter Tryd.func66, Tryd.ntmps66
  go_wp2_with fail
  refine HS.out.mono ?_
  rintro e w1 ⟨rfl, rfl⟩
  go_wp2_with fail
  refine HS.out.mono ?_
  rintro e w1 ⟨rfl, rfl⟩
  go_wp2_with fail
  refine HH.out.mono ?_
  rintro e w1 ⟨v2, rfl, t2, rfl⟩
  have RC2 := hid (RC.out _ _ TT.out t2)
  clear t2 HS HH
  go_wp2_with fail
  refine RC2.out.mono ?_
  rintro e w3 ⟨v3, rfl, t3, b3⟩
  have HW2 := hid (HW.out _ _ b3 (TT.out.below b3) t3)
  clear t3 RC2
  go_wp2_with fail
  refine HW2.out.mono ?_
  rintro e w4 ⟨v4, rfl, t4, b4⟩
  have B4 := below_then b3 b4
  clear HW2 b3 b4
  go_wp2
  go_ret
  exact ⟨v4, rfl, t4, B4⟩
theorem del_one {w : World} {v : Value} {y : Itm} {k p : ByteArray} {f : Nat} {d : Int} (hv : Tree w v (treeF f [y])) :
    Calls Tryd.prog 66 #[v, .string k, .string p, .int .i64 d] w (Grew w (treeF f (delI [y] k))) := by
  rw [treeF_one] at hv
  refine (del_leaf hv).mono fun e w' h => h.cast ?_
  unfold delI
  by_cases h : y.key = k
  · rw [if_pos h, List.filter_cons, if_neg (by simp [h]), List.filter_nil, treeF_nil]
  · rw [if_neg h, List.filter_cons, if_pos (by simp [h]), List.filter_nil, treeF_one]
theorem del_none {w : World} {v : Value} {k p : ByteArray} {f : Nat} {d : Int} (hv : Tree w v (treeF f [])) :
    Calls Tryd.prog 66 #[v, .string k, .string p, .int .i64 d] w (Grew w (treeF f (delI [] k))) := by
  rw [treeF_nil] at hv
  cases hv
  exact del_nil.mono fun e w' h => h.cast (treeF_nil f).symm
theorem delI_length (l : List Itm) (k : ByteArray) : (delI l k).length ≤ l.length := List.length_filter_le _ _
theorem del_walk (f : Nat) : ∀ (w : World) (v : Value) (l : List Itm) (k : ByteArray) (d : Nat), Table w → Tree w v (treeF f l) → Good f l → d + f = 256 → l.length ≤ 1000000 →
    Calls Tryd.prog 66 #[v, .string k, .string (pathS k), .int .i64 (d : Int)] w (Grew w (treeF f (delI l k))) := by
  induction f with
  | zero =>
    intro w v l k d hT hv hg hd _
    match l, hg.few with
    | [], _ => exact del_none hv
    | [y], _ => exact del_one hv
  | succ f ih =>
    intro w v l k d hT hv hg hd hl
    by_cases h2 : 2 ≤ l.length
    · have hdf : 255 - f = d := by omega
      rw [treeF_big f l h2, hdf] at hv
      have hp : Good (f + 1) (delI l k) := hg.sub List.filter_sublist
      have J := join_tree hp (by omega)
      have g0 := hg.half 0 (by omega)
      have g1 := hg.half 1 (by omega)
      have p0 := hp.half 0 (by omega)
      have p1 := hp.half 1 (by omega)
      rw [hdf, half_del, half_del] at J
      rw [hdf] at g0 g1
      rw [hdf, half_del] at p0 p1
      have L0 := halfI_length_le l d 0
      have L1 := halfI_length_le l d 1
      have F0 := fine_tree (show f ≤ 256 by omega) g0 (by omega)
      have F1 := fine_tree (show f ≤ 256 by omega) g1 (by omega)
      rcases btK_two k d with hb | hb
      · have e1 : delI (halfI l d 1) k = halfI l d 1 := del_other (by rw [hb]; decide)
        rw [e1] at J
        have FX := fine_tree (show f ≤ 256 by omega) p0 (by have := delI_length (halfI l d 0) k; omega)
        refine (del_node hT hv hd F0 F1 FX (fun w' v' h1 h2 => ?_)).mono fun e w' h => h.cast ?_
        · rw [if_pos hb] at h2
          exact ih w' v' _ k (d + 1) h1 h2 g0 (by omega) (by omega)
        · rw [if_pos hb]; exact J
      · have e0 : delI (halfI l d 0) k = halfI l d 0 := del_other (by rw [hb]; decide)
        rw [e0] at J
        have FX := fine_tree (show f ≤ 256 by omega) p1 (by have := delI_length (halfI l d 1) k; omega)
        refine (del_node hT hv hd F0 F1 FX (fun w' v' h1 h2 => ?_)).mono fun e w' h => h.cast ?_
        · rw [if_neg (by rw [hb]; decide)] at h2
          exact ih w' v' _ k (d + 1) h1 h2 g1 (by omega) (by omega)
        · rw [if_neg (by rw [hb]; decide)]; exact J
    · match l, h2 with
      | [], _ => exact del_none hv
      | [y], _ => exact del_one hv
      | x :: y :: l, h2 => simp at h2

set_option maxHeartbeats 3200000 in
theorem Del_any {w : World} (hT : Table w) {v : Value} {l : List Itm} {key : ByteArray} (hv : Tree w v (treeF 256 l)) (hk : key.size ≤ 1000000) (hg : Good 256 l) (hl : l.length ≤ 1000000) :
    Calls Tryd.prog 49 #[v, .string key] w (Grew w (treeF 256 (delI l key))) := by
  have ks : key.size ≤ maxLen := by unfold maxLen; omega
  have TT := hid hT
  have VV := hid hv
  have GG := hid hg
  clear hT hv hg
  go_enter Tryd.func49, Tryd.ntmps49
  go_wp2_with (refine wpList_conv rfl (.tmp 7) rfl key rfl ks ?_)
  intro g1 c1 w1 _ q1 b1
  replace TT := hid (TT.out.below b1)
  replace VV := hid (Tree.below VV.out b1)
  have BB := hid b1
  have H := hid (sumK TT.out hk q1)
  clear b1 q1 ks
  go_wp2_with fail
  refine H.out.mono ?_
  rintro e w2 ⟨rfl, b2⟩
  replace TT := hid (TT.out.below b2)
  replace VV := hid (Tree.below VV.out b2)
  replace BB := hid (below_then BB.out b2)
  have P0 : Calls Tryd.prog 66 #[v, .string key, .string (pathS key), .int .i64 0] w2 (Grew w2 (treeF 256 (delI l key))) := del_walk 256 w2 v l key 0 TT.out VV.out GG.out (by omega) hl
  have P := hid P0
  clear P0 b2 H
  go_wp2_with fail
  refine P.out.mono ?_
  rintro e w3 ⟨v3, rfl, t3, b3⟩
  have B3 := below_then BB.out b3
  go_wp2
  go_ret
  exact ⟨v3, rfl, t3, B3⟩
end Go.Proofs.YtmbgfjcmdolggaaDoor
