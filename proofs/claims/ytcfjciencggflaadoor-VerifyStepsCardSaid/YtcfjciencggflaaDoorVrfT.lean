/- The plain law of what is built and shown: it is accepted, tells what the items tell, and unlike answers clash. No program in sight. -/
import Derived.Test.YtcfjciencggflaaDoorVrfS
import Derived.Test.YtcfjciencggflaaDoorV3
set_option linter.unusedVariables false
set_option linter.unusedSimpArgs false
namespace Go.Proofs.YtcfjciencggflaaDoor
open Go.RowKit PrintLast

theorem endT_sides (s : List ByteArray) (t : Tr) (k : ByteArray) : (endT s t k).side = s := by
  unfold endT
  split
  · split <;> rfl
  · rfl
theorem endD_dig (s : List ByteArray) (t : Tr) (key : ByteArray) (h : isNode t = false) : sum256 (endD key (endT s t key)) = t.dig := by
  cases t with
  | nil => rfl
  | leaf y =>
    by_cases hy : y.key = key
    · have e : endT s (.leaf y) key = ⟨s, 1, ⟨#[]⟩, y.row⟩ := by simp [endT, hy]
      rw [e]
      show sum256 (leafB key.data.toList y.row) = sum256 (leafB y.key.data.toList y.row)
      rw [hy]
    · have e : endT s (.leaf y) key = ⟨s, 2, y.key, y.row⟩ := by simp [endT, hy]
      rw [e]
      rfl
  | node l r => cases h
theorem walkT_end (t : Tr) : ∀ (d : Nat) (k : ByteArray), isNode (walkT t d k).2 = false := by
  induction t with
  | nil => intro d k; rfl
  | leaf y => intro d k; rfl
  | node l r ihl ihr =>
    intro d k
    unfold walkT
    split
    · exact ihr _ _
    · exact ihl _ _
theorem walk_dig (t : Tr) : ∀ (d : Nat) (k : ByteArray) (D : List UInt8), sum256 D = (walkT t d k).2.dig → sum256 (topS (pathK k) D d (walkT t d k).1) = t.dig := by
  induction t with
  | nil => intro d k D h; exact h
  | leaf y => intro d k D h; exact h
  | node l r ihl ihr =>
    intro d k D h
    by_cases hb : btK k d = 1
    · have e : walkT (.node l r) d k = (digS l :: (walkT r (d + 1) k).1, (walkT r (d + 1) k).2) := by rw [walkT, if_pos hb]
      rw [e] at h ⊢
      rw [topS_cons]
      unfold stepU
      rw [if_pos (show bitOf (pathK k) (d : Int) = 1 from hb), ihr _ _ _ h, digS_list]
      rfl
    · have e : walkT (.node l r) d k = (digS r :: (walkT l (d + 1) k).1, (walkT l (d + 1) k).2) := by rw [walkT, if_neg hb]
      rw [e] at h ⊢
      rw [topS_cons]
      unfold stepU
      rw [if_neg (show ¬ bitOf (pathK k) (d : Int) = 1 from hb), ihl _ _ _ h, digS_list]
      rfl
/-- What is built folds to the tree's digest. -/
theorem built_top (t : Tr) (key : ByteArray) : sum256 (topS (pathK key) (endD key (buildT t key)) 0 (buildT t key).side) = t.dig := by
  unfold buildT
  rw [endT_sides]
  exact walk_dig t 0 key _ (endD_dig _ _ _ (walkT_end t 0 key))

def getI (l : List Itm) (key : ByteArray) : Option (List UInt8) := (l.find? fun x => decide (x.key = key)).map (·.row)
theorem walk_leaf (f : Nat) : ∀ (l : List Itm) (k : ByteArray) (d : Nat), Good f l → f ≤ 256 → d + f = 256 →
    (∀ y, (walkT (treeF f l) d k).2 = .leaf y → y ∈ l ∧ ∀ i, i < (walkT (treeF f l) d k).1.length → btK y.key (d + i) = btK k (d + i)) ∧ (∀ x ∈ l, x.key = k → (walkT (treeF f l) d k).2 = .leaf x) := by
  have few : ∀ (f d : Nat) (l : List Itm) (k : ByteArray), l.length ≤ 1 →
      (∀ y, (walkT (treeF f l) d k).2 = .leaf y → y ∈ l ∧ ∀ i, i < (walkT (treeF f l) d k).1.length → btK y.key (d + i) = btK k (d + i)) ∧ (∀ x ∈ l, x.key = k → (walkT (treeF f l) d k).2 = .leaf x) := by
    intro f d l k h1
    match l, h1 with
    | [], _ =>
      rw [treeF_nil]
      exact ⟨fun y hy => (by cases hy), fun x hx => absurd hx (by simp)⟩
    | [x], _ =>
      rw [treeF_one]
      refine ⟨fun y hy => ?_, fun z hz _ => ?_⟩
      · obtain rfl : x = y := by simpa [walkT] using hy
        exact ⟨by simp, fun i hi => absurd hi (by simp [walkT])⟩
      · obtain rfl : z = x := by simpa using hz
        rfl
  induction f with
  | zero => intro l k d hg _ _; exact few 0 d l k hg.few
  | succ f ih =>
    intro l k d hg hf hd
    by_cases h2 : 2 ≤ l.length
    · rw [treeF_big f l h2]
      obtain rfl : d = 255 - f := by omega
      have b0 := hg.half 0 (by omega)
      have b1 := hg.half 1 (by omega)
      by_cases hb : btK k (255 - f) = 1
      · rw [walkT, if_pos hb]
        obtain ⟨i1, i2⟩ := ih _ k (255 - f + 1) b1 (by omega) (by omega)
        refine ⟨fun y hy => ?_, fun x hx hk => ?_⟩
        · obtain ⟨m1, m2⟩ := i1 y hy
          obtain ⟨m3, m4⟩ := half_mem.1 m1
          refine ⟨m3, fun i hi => ?_⟩
          cases i with
          | zero => rw [Nat.add_zero, m4, hb]
          | succ i =>
            have := m2 i (by simpa using hi)
            rw [show 255 - f + (i + 1) = 255 - f + 1 + i by omega]
            exact this
        · exact i2 x (half_mem.2 ⟨hx, by rw [hk]; exact hb⟩) hk
      · have hb0 : btK k (255 - f) = 0 := (btK_two k (255 - f)).resolve_right hb
        rw [walkT, if_neg hb]
        obtain ⟨i1, i2⟩ := ih _ k (255 - f + 1) b0 (by omega) (by omega)
        refine ⟨fun y hy => ?_, fun x hx hk => ?_⟩
        · obtain ⟨m1, m2⟩ := i1 y hy
          obtain ⟨m3, m4⟩ := half_mem.1 m1
          refine ⟨m3, fun i hi => ?_⟩
          cases i with
          | zero => rw [Nat.add_zero, m4, hb0]
          | succ i =>
            have := m2 i (by simpa using hi)
            rw [show 255 - f + (i + 1) = 255 - f + 1 + i by omega]
            exact this
        · exact i2 x (half_mem.2 ⟨hx, by rw [hk]; exact hb0⟩) hk
    · exact few (f + 1) d l k (by omega)

/-- What is built stands so, or so. -/
theorem built_cases {l : List Itm} (hg : Good 256 l) (key : ByteArray) :
    (∃ row, getI l key = some row ∧ buildT (treeF 256 l) key = ⟨(walkT (treeF 256 l) 0 key).1, 1, ⟨#[]⟩, row⟩) ∨
    (getI l key = none ∧ buildT (treeF 256 l) key = ⟨(walkT (treeF 256 l) 0 key).1, 0, ⟨#[]⟩, []⟩) ∨
    (∃ y, y ∈ l ∧ y.key ≠ key ∧ getI l key = none ∧ buildT (treeF 256 l) key = ⟨(walkT (treeF 256 l) 0 key).1, 2, y.key, y.row⟩ ∧ besideB key y.key (walkT (treeF 256 l) 0 key).1.length = true) := by
  obtain ⟨h1, h2⟩ := walk_leaf 256 l key 0 hg (Nat.le_refl _) rfl
  unfold buildT getI
  cases hf : l.find? fun x => decide (x.key = key) with
  | some x =>
    have hx := List.mem_of_find?_eq_some hf
    have hk : x.key = key := by simpa using List.find?_some hf
    refine .inl ⟨x.row, rfl, ?_⟩
    rw [h2 x hx hk]
    simp [endT, hk]
  | none =>
    have hn : ∀ x ∈ l, x.key ≠ key := by simpa using hf
    have he := walkT_end (treeF 256 l) 0 key
    cases ht : (walkT (treeF 256 l) 0 key).2 with
    | nil => exact .inr (.inl ⟨rfl, rfl⟩)
    | leaf y =>
      obtain ⟨m1, m2⟩ := h1 y ht
      have hk := hn y m1
      refine .inr (.inr ⟨y, m1, hk, rfl, by simp [endT, hk], ?_⟩)
      unfold besideB
      rw [Bool.and_eq_true]
      refine ⟨decide_eq_true (fun i hi => ?_), decide_eq_true (Ne.symm hk)⟩
      have := m2 i hi
      rw [Nat.zero_add] at this
      exact this.symm
    | node a b => rw [ht] at he; cases he
theorem tells_get {l : List Itm} (hg : Good 256 l) (key : ByteArray) (r : List UInt8) (there : Bool) :
    tellsB key r there (buildT (treeF 256 l) key) = match getI l key with | some row => there && decide (row = r) | none => !there && decide (r = []) := by
  rcases built_cases hg key with ⟨row, h1, h2⟩ | ⟨h1, h2⟩ | ⟨y, _, hk, h1, h2, h3⟩
  · rw [h1, h2]
    unfold tellsB
    cases there <;> simp
  · rw [h1, h2]
    unfold tellsB
    cases there <;> simp
  · rw [h1, h2]
    unfold tellsB
    cases there <;> simp [h3]

/-! ### unlike answers clash -/
theorem dig_eq {a b : List UInt8} (h : sum256 a = sum256 b) : dig a = dig b := by unfold dig; rw [h]
theorem sum_of_dig {a b : List UInt8} (h : dig a = dig b) : sum256 a = sum256 b := by rw [← dig_list a, h, dig_list]
theorem clashL_head {a b : List UInt8} {l m : List (List UInt8)} (h : a ≠ b) (hd : sum256 a = sum256 b) : clashL (a :: l) (b :: m) ≠ none := by
  unfold clashL
  rw [if_pos ⟨h, dig_eq hd⟩]
  simp
theorem clashL_skip {a b : List UInt8} {l m : List (List UInt8)} (h : a = b) : clashL (a :: l) (b :: m) = clashL l m := by
  rw [clashL, if_neg (fun e => e.1 h)]
theorem clash_way (path D E : List UInt8) (hD : ∀ j s t, D ≠ stepU path j s t) (hE : ∀ j s t, E ≠ stepU path j s t) (hDE : D ≠ E) (l : List ByteArray) :
    ∀ (m : List ByteArray) (i : Nat), (∀ s ∈ l, s.size = 32) → (∀ s ∈ m, s.size = 32) → sum256 (topS path D i l) = sum256 (topS path E i m) → clashL (wayS path D i l) (wayS path E i m) ≠ none := by
  induction l with
  | nil =>
    intro m i _ _ h
    cases m with
    | nil => exact clashL_head hDE h
    | cons s m => exact clashL_head (hD _ _ _) h
  | cons s l ih =>
    intro m i hl hm h
    cases m with
    | nil => exact clashL_head (Ne.symm (hE _ _ _)) h
    | cons s' m =>
      rw [wayS_cons, wayS_cons]
      by_cases he : stepU path i s (topS path D (i + 1) l) = stepU path i s' (topS path E (i + 1) m)
      · rw [clashL_skip he]
        refine ih m (i + 1) (fun x hx => hl x (by simp [hx])) (fun x hx => hm x (by simp [hx])) ?_
        rw [← stepU_at path i s _ (hl s (by simp)), he, stepU_at path i s' _ (hm s' (by simp))]
      · exact clashL_head he h
theorem clash_steps {key last sum : ByteArray} {x y : Prf} (hl : last.size = 32) (hs : sum.size = 32) (hx : ∀ s ∈ x.side, s.size = 32) (hy : ∀ s ∈ y.side, s.size = 32)
    (hD : ∀ j s t, endD key x ≠ stepU (pathK key) j s t) (hE : ∀ j s t, endD key y ≠ stepU (pathK key) j s t) (hDE : endD key x ≠ endD key y)
    (h : sum256 ((stepsB key last sum x).headD []) = sum256 ((stepsB key last sum y).headD [])) : clashL (stepsB key last sum x) (stepsB key last sum y) ≠ none := by
  unfold stepsB at h ⊢
  by_cases he : linkB last.data.toList (sum256 (topS (pathK key) (endD key x) 0 x.side)) sum.data.toList = linkB last.data.toList (sum256 (topS (pathK key) (endD key y) 0 y.side)) sum.data.toList
  · rw [clashL_skip he]
    refine clash_way _ _ _ hD hE hDE _ _ 0 hx hy ?_
    have e1 := (linkB_at (topS (pathK key) (endD key x) 0 x.side) hl hs).1
    rw [he, (linkB_at (topS (pathK key) (endD key y) 0 y.side) hl hs).1] at e1
    exact e1.symm
  · exact clashL_head he h
theorem end_first (key : ByteArray) (x : Prf) : (endD key x).head? = some 0 ∨ (endD key x).head? = some 1 := by
  unfold endD
  split
  · exact .inr rfl
  · split
    · exact .inr rfl
    · exact .inl rfl
theorem end_step (key : ByteArray) (x : Prf) (path : List UInt8) (j : Nat) (s : ByteArray) (t : List UInt8) : endD key x ≠ stepU path j s t := by
  intro e
  have h2 : (stepU path j s t).head? = some 2 := by unfold stepU; split <;> rfl
  rw [← e] at h2
  rcases end_first key x with h | h <;> rw [h] at h2 <;> exact absurd h2 (by decide)
theorem leafB_inj {k k' r r' : List UInt8} (hk : k.length = k'.length) (h : leafB k r = leafB k' r') : k = k' ∧ r = r' := by
  unfold leafB at h
  rw [hk] at h
  have h1 := (List.cons.inj h).2
  rw [List.append_assoc, List.append_assoc] at h1
  exact List.append_inj (List.append_cancel_left h1) hk
theorem leafB_zero (k r : List UInt8) : leafB k r ≠ [0] := by
  intro e
  exact absurd (congrArg List.head? e) (by show some (1 : UInt8) ≠ some 0; decide)
/-- The ends tell the answers. -/
theorem ends_tell {l m : List Itm} (hl : Good 256 l) (hm : Good 256 m) {key : ByteArray} (kl : ∀ y ∈ l, y.key.size = key.size) (km : ∀ y ∈ m, y.key.size = key.size)
    (h : endD key (buildT (treeF 256 l) key) = endD key (buildT (treeF 256 m) key)) : getI l key = getI m key := by
  have sz : ∀ a b : ByteArray, a.size = b.size → a.data.toList.length = b.data.toList.length := fun a b e => by simpa using e
  have e1 : ∀ s r, endD key ⟨s, 1, ⟨#[]⟩, r⟩ = leafB key.data.toList r := fun s r => rfl
  have e0 : ∀ s, endD key ⟨s, 0, ⟨#[]⟩, []⟩ = [0] := fun s => rfl
  have e2 : ∀ s k r, endD key ⟨s, 2, k, r⟩ = leafB k.data.toList r := fun s k r => rfl
  rcases built_cases hl key with ⟨row, h1, h2⟩ | ⟨h1, h2⟩ | ⟨y, my, hk, h1, h2, h3⟩ <;> rcases built_cases hm key with ⟨row', h1', h2'⟩ | ⟨h1', h2'⟩ | ⟨y', my', hk', h1', h2', h3'⟩ <;> rw [h2, h2'] at h <;> rw [h1, h1']
  · rw [e1, e1] at h; rw [(leafB_inj rfl h).2]
  · rw [e1, e0] at h; exact absurd h (leafB_zero _ _)
  · rw [e1, e2] at h; exact absurd (str_eq (leafB_inj (sz _ _ (km y' my').symm) h).1).symm hk'
  · rw [e0, e1] at h; exact absurd h.symm (leafB_zero _ _)
  · rw [e2, e1] at h; exact absurd (str_eq (leafB_inj (sz _ _ (kl y my)) h).1) hk
/-- Unlike answers for one digest clash. -/
theorem clash_built {l m : List Itm} (hl : Good 256 l) (hm : Good 256 m) {key last sum : ByteArray} (hla : last.size = 32) (hsu : sum.size = 32) (kl : ∀ y ∈ l, y.key.size = key.size) (km : ∀ y ∈ m, y.key.size = key.size)
    (sl : ∀ s ∈ (buildT (treeF 256 l) key).side, s.size = 32) (sm : ∀ s ∈ (buildT (treeF 256 m) key).side, s.size = 32)
    (hd : dig (linkB last.data.toList (treeF 256 l).dig sum.data.toList) = dig (linkB last.data.toList (treeF 256 m).dig sum.data.toList)) (hu : getI l key ≠ getI m key) :
    clashL (stepsB key last sum (buildT (treeF 256 l) key)) (stepsB key last sum (buildT (treeF 256 m) key)) ≠ none := by
  refine clash_steps hla hsu sl sm (fun _ _ _ => end_step _ _ _ _ _ _) (fun _ _ _ => end_step _ _ _ _ _ _) (fun e => hu (ends_tell hl hm kl km e)) ?_
  unfold stepsB
  show sum256 (linkB _ _ _) = sum256 (linkB _ _ _)
  rw [built_top, built_top]
  exact sum_of_dig hd
end Go.Proofs.YtcfjciencggflaaDoor
