/- What both walks of Clash need: of what is hashed, how long it is, and one of a list. -/
import Derived.Test.YtcfjciencggflaaDoorV1
import Derived.Test.YtcfjciencggflaaDoorV2
set_option linter.unusedVariables false
set_option linter.unusedSimpArgs false
namespace Go.Proofs.YtcfjciencggflaaDoor
open Go.RowKit PrintLast

theorem clashL_get {l m : List (List UInt8)} {k : Nat} {x y : List UInt8} (h1 : l[k]? = some x) (h2 : m[k]? = some y) : clashL (l.drop k) (m.drop k) = if x ≠ y ∧ dig x = dig y then some (x, y) else clashL (l.drop (k + 1)) (m.drop (k + 1)) := by
  obtain ⟨a1, e1⟩ := List.getElem?_eq_some_iff.1 h1
  obtain ⟨a2, e2⟩ := List.getElem?_eq_some_iff.1 h2
  rw [List.drop_eq_getElem_cons a1, List.drop_eq_getElem_cons a2, e1, e2]
  rfl
theorem clashL_end {l m : List (List UInt8)} {k : Nat} (h : l.length ≤ k ∨ m.length ≤ k) : clashL (l.drop k) (m.drop k) = none := by
  rcases h with h | h
  · rw [List.drop_of_length_le h]
    cases m.drop k <;> rfl
  · rw [List.drop_of_length_le h]
    cases l.drop k <;> rfl
/-- What Clash answers. -/
def GaveC (w : World) (r : Option (List UInt8 × List UInt8)) (e : Ending) (w' : World) : Prop :=
  ∃ A1 m1 c1 A2 m2 c2 ok u v, e = .returned (.tuple #[.slice A1 m1 c1, .slice A2 m2 c2, .bool ok]) ∧ Hid (u.length = m1 ∧ v.length = m2 ∧ BSA w' A1 c1 u ∧ BSA w' A2 c2 v ∧ ok = r.isSome ∧ (u, v) = r.getD ([], [])) ∧ Below w.heap.size w w'
theorem GaveC.none_ {w w' : World} {r : Option (List UInt8 × List UInt8)} (h : r = none) (hb : Below w.heap.size w w') : GaveC w r (.returned (.tuple #[.slice none 0 0, .slice none 0 0, .bool false])) w' :=
  ⟨none, 0, 0, none, 0, 0, false, [], [], rfl, hid ⟨rfl, rfl, BSA.nil _, BSA.nil _, by rw [h]; rfl, by rw [h]; rfl⟩, hb⟩
theorem endD_long {key : ByteArray} {x : Prf} (hk : key.size ≤ 60000) (hx : Fits x) : (endD key x).length ≤ 100000 := by
  have q1 := hx.2.2.2.1
  have q2 := hx.2.2.2.2.1
  unfold endD
  split
  · rw [leafB_length]; simp; omega
  · split
    · rw [leafB_length]; simp; omega
    · simp
theorem steps_long {key : ByteArray} {p : List UInt8} {L : List (List UInt8)} (hk : key.size ≤ 60000) (h : stepsP key p = some L) : ∀ t ∈ L, t.length ≤ 200000 := by
  obtain ⟨x, hx, hL⟩ : ∃ x, readV p = some x ∧ stepsB key x.2.1 x.2.2 x.1 = L := by
    unfold stepsP at h
    cases hr : readV p with
    | none => rw [hr] at h; cases h
    | some x => rw [hr] at h; exact ⟨x, rfl, Option.some.inj h⟩
  obtain ⟨f1, f2, f3, f4⟩ := readV_fits hx
  have hd := endD_long hk f1
  have way : ∀ (l : List ByteArray) (i : Nat), (∀ s ∈ l, s.size = 32) → ∀ t ∈ wayS (pathK key) (endD key x.1) i l, t.length ≤ 200000 := by
    intro l
    induction l with
    | nil =>
      intro i _ t ht
      have e : t = endD key x.1 := by simpa [wayS] using ht
      rw [e]; omega
    | cons s l ih =>
      intro i hs t ht
      rw [wayS_cons] at ht
      rcases List.mem_cons.1 ht with rfl | ht
      · rw [stepU_length _ _ _ _ (hs s (by simp))]; omega
      · exact ih (i + 1) (fun s hs' => hs s (by simp [hs'])) t ht
  intro t ht
  rw [← hL] at ht
  unfold stepsB at ht
  rcases List.mem_cons.1 ht with rfl | ht
  · rw [(linkB_at _ f2 f3).2]; omega
  · exact way _ 0 f1.1 t ht
/-- One element of a list of what is hashed. -/
theorem LB.pick {w : World} {B c k : Nat} {R : Option Addr} {ps : List Part} (h : LB w B R c ps) (hk : k < ps.length) : ∃ g a m d x, R = some ⟨g, 0, none⟩ ∧ w.cell? ⟨g, k, none⟩ = some (.slice a m d) ∧ BSA w a d x ∧ x.length = m ∧ (txs ps)[k]? = some x := by
  obtain ⟨g, rfl⟩ := h.place (by omega)
  exact ⟨g, _, _, _, _, rfl, h.cell k hk, h.elem k hk, rfl, by unfold txs; rw [List.getElem?_map, List.getElem?_eq_getElem hk]; rfl⟩
end Go.Proofs.YtcfjciencggflaaDoor
