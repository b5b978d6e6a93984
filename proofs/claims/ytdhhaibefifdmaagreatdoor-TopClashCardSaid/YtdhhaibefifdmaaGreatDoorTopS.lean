/- The plain law of TopClash: of two bytes that are accepted for one digest and one key, and tell unlike answers, the steps clash; what clashes is unlike. No program in sight. -/
import Derived.Test.YtdhhaibefifdmaaGreatDoorT3
set_option linter.unusedVariables false
set_option linter.unusedSimpArgs false
namespace Go.Proofs.YtdhhaibefifdmaaGreatDoor
open Go.RowKit PrintLast

/-! ### unlike answers clash -/
theorem dig_eq {a b : List UInt8} (h : sum256 a = sum256 b) : dig a = dig b := by unfold dig; rw [h]
theorem sum_of_dig {a b : List UInt8} (h : dig a = dig b) : sum256 a = sum256 b := by rw [← dig_list a, h, dig_list]
theorem clashL_head {a b : List UInt8} {l m : List (List UInt8)} (h : a ≠ b) (hd : sum256 a = sum256 b) : clashL (a :: l) (b :: m) ≠ none := by
  unfold clashL
  rw [if_pos ⟨h, dig_eq hd⟩]
  simp
theorem clashL_skip {a b : List UInt8} {l m : List (List UInt8)} (h : a = b) : clashL (a :: l) (b :: m) = clashL l m := by
  rw [clashL, if_neg (fun e => e.1 h)]
theorem clash_way (path D E : List UInt8) (hD : ∀ j s t, D ≠ stepU path j s t) (hE : ∀ j s t, E ≠ stepU path j s t) (hDE : D ≠ E) (l : List ByteArray) :
    ∀ (m : List ByteArray) (i : Nat), (∀ s ∈ l, s.size = 32) → (∀ s ∈ m, s.size = 32) → sum256 (topS path D i l) = sum256 (topS path E i m) → clashL (wayS path D i l) (wayS path E i m) ≠ none := by
  induction l with
  | nil =>
    intro m i _ _ h
    cases m with
    | nil => exact clashL_head hDE h
    | cons s m => exact clashL_head (hD _ _ _) h
  | cons s l ih =>
    intro m i hl hm h
    cases m with
    | nil => exact clashL_head (Ne.symm (hE _ _ _)) h
    | cons s' m =>
      rw [wayS_cons, wayS_cons]
      by_cases he : stepU path i s (topS path D (i + 1) l) = stepU path i s' (topS path E (i + 1) m)
      · rw [clashL_skip he]
        refine ih m (i + 1) (fun x hx => hl x (by simp [hx])) (fun x hx => hm x (by simp [hx])) ?_
        rw [← stepU_at path i s _ (hl s (by simp)), he, stepU_at path i s' _ (hm s' (by simp))]
      · exact clashL_head he h
theorem end_first (key : ByteArray) (x : Prf) : (endD key x).head? = some 0 ∨ (endD key x).head? = some 1 := by
  unfold endD
  split
  · exact .inr rfl
  · split
    · exact .inr rfl
    · exact .inl rfl
theorem end_step (key : ByteArray) (x : Prf) (path : List UInt8) (j : Nat) (s : ByteArray) (t : List UInt8) : endD key x ≠ stepU path j s t := by
  intro e
  have h2 : (stepU path j s t).head? = some 2 := by unfold stepU; split <;> rfl
  rw [← e] at h2
  rcases end_first key x with h | h <;> rw [h] at h2 <;> exact absurd h2 (by decide)
theorem leafB_inj {k k' r r' : List UInt8} (hk : k.length = k'.length) (h : leafB k r = leafB k' r') : k = k' ∧ r = r' := by
  unfold leafB at h
  rw [hk] at h
  have h1 := (List.cons.inj h).2
  rw [List.append_assoc, List.append_assoc] at h1
  exact List.append_inj (List.append_cancel_left h1) hk
theorem leafB_zero (k r : List UInt8) : leafB k r ≠ [0] := by
  intro e
  exact absurd (congrArg List.head? e) (by show some (1 : UInt8) ≠ some 0; decide)
theorem clashL_unlike : ∀ (l m : List (List UInt8)) (x : List UInt8 × List UInt8), clashL l m = some x → x.1 ≠ x.2
  | [], _, _, h => by unfold clashL at h; cases h
  | _ :: _, [], _, h => by unfold clashL at h; cases h
  | a :: l, b :: m, x, h => by
    unfold clashL at h
    split at h
    · rename_i hc
      cases h
      exact hc.1
    · exact clashL_unlike l m x h
theorem clashP_unlike {key : ByteArray} {p q : List UInt8} {x : List UInt8 × List UInt8} (h : clashP key p q = some x) : x.1 ≠ x.2 := by
  unfold clashP at h
  split at h
  · exact clashL_unlike _ _ _ h
  · cases h
theorem numBytes4_inj {a b : Nat} (ha : a < 65536) (hb : b < 65536) (h : numBytes a 4 = numBytes b 4) : a = b := by
  have e : ∀ n, numBytes n 4 = [UInt8.ofNat (n / 2 ^ 24), UInt8.ofNat (n / 2 ^ 16), UInt8.ofNat (n / 2 ^ 8), UInt8.ofNat n] := by
    intro n
    simp [numBytes, List.range, List.range.loop]
  rw [e, e] at h
  simp only [List.cons.injEq, and_true] at h
  have h1 := congrArg UInt8.toNat h.2.2.1
  have h2 := congrArg UInt8.toNat h.2.2.2
  simp only [UInt8.toNat_ofNat'] at h1 h2
  omega
theorem leafB_len {k k' r r' : List UInt8} (h1 : k.length < 65536) (h2 : k'.length < 65536) (h : leafB k r = leafB k' r') : k = k' ∧ r = r' := by
  refine leafB_inj ?_ h
  have h3 := (List.cons.inj h).2
  rw [List.append_assoc, List.append_assoc] at h3
  exact numBytes4_inj h1 h2 (List.append_inj h3 (by rw [numBytes_length, numBytes_length])).1
/-- Unlike answers have unlike ends. -/
theorem tells_ends {key : ByteArray} {a b : List UInt8} {t u : Bool} {x y : Prf} (hk : key.size < 65536) (fx : Fits x) (fy : Fits y) (hx : tellsB key a t x = true) (hy : tellsB key b u y = true) (hu : t ≠ u ∨ a ≠ b) : endD key x ≠ endD key y := by
  have sz : key.data.toList.length < 65536 := by simpa using hk
  have k4 : ∀ z : Prf, Fits z → z.key.data.toList.length < 65536 := fun z hz => by have := hz.2.2.2.1; simp; omega
  have own : ∀ (c : List UInt8) (z : Prf), tellsB key c true z = true → endD key z = leafB key.data.toList c := by
    intro c z h
    simp only [tellsB, if_true, Bool.and_eq_true, decide_eq_true_eq] at h
    unfold endD
    rw [if_pos h.1, h.2]
  have oth : ∀ (c : List UInt8) (z : Prf), Fits z → tellsB key c false z = true → c = [] ∧ ∀ r, endD key z ≠ leafB key.data.toList r := by
    intro c z fz h
    simp only [tellsB, Bool.false_eq_true, if_false, Bool.and_eq_true, Bool.or_eq_true, decide_eq_true_eq] at h
    refine ⟨h.1, fun r => ?_⟩
    rcases h.2 with h0 | ⟨h2, h3⟩
    · unfold endD
      rw [if_neg (by rw [h0]; decide), if_neg (by rw [h0]; decide)]
      exact fun e => leafB_zero _ _ e.symm
    · unfold endD
      rw [if_neg (by rw [h2]; decide), if_pos h2]
      intro e
      unfold besideB at h3
      simp only [Bool.and_eq_true, decide_eq_true_eq] at h3
      exact h3.2 (str_eq (leafB_len (k4 z fz) sz e).1).symm
  cases t <;> cases u
  · obtain ⟨rfl, _⟩ := oth a x fx hx
    obtain ⟨rfl, _⟩ := oth b y fy hy
    rcases hu with hu | hu <;> exact absurd rfl hu
  · rw [own b y hy]
    exact (oth a x fx hx).2 b
  · rw [own a x hx]
    exact fun e => (oth b y fy hy).2 a e.symm
  · rw [own a x hx, own b y hy]
    intro e
    rcases hu with hu | hu
    · exact hu rfl
    · exact hu (leafB_inj rfl e).2
theorem clash_steps2 {key last sum last' sum' : ByteArray} {x y : Prf} (hl : last.size = 32) (hs : sum.size = 32) (hl' : last'.size = 32) (hs' : sum'.size = 32) (hx : ∀ s ∈ x.side, s.size = 32) (hy : ∀ s ∈ y.side, s.size = 32)
    (hDE : endD key x ≠ endD key y)
    (h : sum256 ((stepsB key last sum x).headD []) = sum256 ((stepsB key last' sum' y).headD [])) : clashL (stepsB key last sum x) (stepsB key last' sum' y) ≠ none := by
  unfold stepsB at h ⊢
  by_cases he : linkB last.data.toList (sum256 (topS (pathK key) (endD key x) 0 x.side)) sum.data.toList = linkB last'.data.toList (sum256 (topS (pathK key) (endD key y) 0 y.side)) sum'.data.toList
  · rw [clashL_skip he]
    refine clash_way _ _ _ (fun _ _ _ => end_step _ _ _ _ _ _) (fun _ _ _ => end_step _ _ _ _ _ _) hDE _ _ 0 hx hy ?_
    have e1 := (linkB_at (topS (pathK key) (endD key x) 0 x.side) hl hs).1
    rw [he, (linkB_at (topS (pathK key) (endD key y) 0 y.side) hl' hs').1] at e1
    exact e1.symm
  · exact clashL_head he h
/-- What is accepted for one digest and one key, and tells unlike answers, clashes. -/
theorem accept_clash {digest key : ByteArray} {a b : List UInt8} {t u : Bool} {p q : List UInt8} (hk : key.size < 65536) (hp : acceptB digest key a t p = true) (hq : acceptB digest key b u q = true) (hu : t ≠ u ∨ a ≠ b) : (clashP key p q).isSome = true := by
  unfold acceptB at hp hq
  cases ep : readV p with
  | none => rw [ep] at hp; cases hp
  | some x =>
    cases eq : readV q with
    | none => rw [eq] at hq; cases hq
    | some y =>
      rw [ep] at hp; rw [eq] at hq
      simp only [Bool.and_eq_true, decide_eq_true_eq] at hp hq
      obtain ⟨f1, f2, f3, _⟩ := readV_fits ep
      obtain ⟨g1, g2, g3, _⟩ := readV_fits eq
      unfold clashP stepsP
      rw [ep, eq]
      refine Option.isSome_iff_ne_none.2 ?_
      exact clash_steps2 f2 f3 g2 g3 f1.1 g1.1 (tells_ends hk f1 g1 hp.1 hq.1 hu) (sum_of_dig (hp.2.trans hq.2.symm))
end Go.Proofs.YtdhhaibefifdmaaGreatDoor
