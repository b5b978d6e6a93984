/- The plain law of Trim: what is let go nobody sees who asks for that number, or above. -/
import Derived.Test.YtlfimleciemobabChainE
set_option linter.unusedVariables false
set_option linter.unusedSimpArgs false
namespace Go.Proofs.Ytlfimleciemobab
open Go.RowKit

theorem cnt_drop {vs : List Ver} {x : Int} {t : Nat} (ht : t ≤ cnt vs x) : cnt (vs.drop t) x = cnt vs x - t := by
  induction t generalizing vs with
  | zero => simp
  | succ t ih =>
    cases vs with
    | nil => simp [cnt] at ht
    | cons v vs =>
      unfold cnt at ht
      rw [List.takeWhile_cons] at ht
      by_cases hv : v.at_ ≤ x
      · simp only [hv, decide_true, if_true, List.length_cons] at ht
        have := ih (vs := vs) (by unfold cnt; omega)
        have e : cnt (v :: vs) x = cnt vs x + 1 := by unfold cnt; rw [List.takeWhile_cons]; simp [hv]
        rw [List.drop_succ_cons, this, e]
        omega
      · simp [hv] at ht
theorem cnt_mono {vs : List Ver} {x y : Int} (hxy : x ≤ y) : cnt vs x ≤ cnt vs y := by
  induction vs with
  | nil => simp [cnt]
  | cons v vs ih =>
    unfold cnt at *
    rw [List.takeWhile_cons, List.takeWhile_cons]
    by_cases hv : v.at_ ≤ x
    · have hy : v.at_ ≤ y := by omega
      simp only [hv, hy, decide_true, if_true, List.length_cons]
      omega
    · simp [hv]

theorem trimN_spec (vs : List Ver) (x : Int) : trimN vs x ≤ cnt vs x ∧ (cnt vs x = 0 → trimN vs x = 0) ∧ ∀ m (hm : m < vs.length), cnt vs x = m + 1 → trimN vs x = if vs[m].gone = true then m + 1 else m := by
  have hc := cnt_le vs x
  refine ⟨?_, ?_, ?_⟩
  · unfold trimN
    split
    · split
      · omega
      · split <;> omega
    · omega
  · intro h
    unfold trimN
    split
    · simp [h]
    · rfl
  · intro m hm h
    unfold trimN
    rw [h, show m + 1 - 1 = m by omega, List.getElem?_eq_getElem hm]
    simp

theorem got_of {vs : List Ver} {x : Int} {m : Nat} (hm : m < vs.length) (h : cnt vs x = m + 1) : got vs x = if vs[m].gone = true then ([], false) else (vs[m].row, true) := by
  unfold got
  rw [h, show m + 1 - 1 = m by omega, List.getElem?_eq_getElem hm]
  simp
theorem got_zero {vs : List Ver} {x : Int} (h : cnt vs x = 0) : got vs x = ([], false) := by
  unfold got
  split <;> simp [h]

theorem got_trim {vs : List Ver} {low x : Int} (hx : low ≤ x) : got (vs.drop (trimN vs low)) x = got vs x := by
  obtain ⟨h1, h2, h3⟩ := trimN_spec vs low
  have hm := cnt_mono (vs := vs) hx
  have hl := cnt_le vs x
  have hd := cnt_drop (vs := vs) (x := x) (t := trimN vs low) (by omega)
  by_cases h0 : cnt vs low = 0
  · rw [h2 h0]; simp
  · obtain ⟨m, em⟩ : ∃ m, cnt vs low = m + 1 := ⟨cnt vs low - 1, by omega⟩
    have hml : m < vs.length := by omega
    have e := h3 m hml em
    obtain ⟨k, ek⟩ : ∃ k, cnt vs x = k + 1 := ⟨cnt vs x - 1, by omega⟩
    have hkl : k < vs.length := by omega
    rw [got_of hkl ek]
    by_cases hg : vs[m].gone = true
    · rw [if_pos hg] at e
      rw [e] at hd ⊢
      by_cases hk : k = m
      · subst hk
        rw [got_zero (by omega), if_pos hg]
      · have hd' : cnt (vs.drop (m + 1)) x = (k - (m + 1)) + 1 := by omega
        rw [got_of (by simp; omega) hd']
        simp only [List.getElem_drop]
        simp only [show m + 1 + (k - (m + 1)) = k by omega]
    · rw [if_neg hg] at e
      rw [e] at hd ⊢
      have hd' : cnt (vs.drop m) x = (k - m) + 1 := by omega
      rw [got_of (by simp; omega) hd']
      simp only [List.getElem_drop]
      simp only [show m + (k - m) = k by omega]

theorem trim_again (vs : List Ver) (low : Int) : trimN (vs.drop (trimN vs low)) low = 0 := by
  obtain ⟨h1, h2, h3⟩ := trimN_spec vs low
  have hl := cnt_le vs low
  have hd := cnt_drop (vs := vs) (x := low) (t := trimN vs low) h1
  by_cases h0 : cnt vs low = 0
  · rw [h2 h0]; simpa using h2 h0
  · obtain ⟨m, em⟩ : ∃ m, cnt vs low = m + 1 := ⟨cnt vs low - 1, by omega⟩
    have hml : m < vs.length := by omega
    have e := h3 m hml em
    by_cases hg : vs[m].gone = true
    · rw [if_pos hg] at e
      exact (trimN_spec _ _).2.1 (by omega)
    · rw [if_neg hg] at e
      rw [e] at hd ⊢
      have := (trimN_spec (vs.drop m) low).2.2 0 (by simp; omega) (by omega)
      rw [this]
      simp [hg]
end Go.Proofs.Ytlfimleciemobab
