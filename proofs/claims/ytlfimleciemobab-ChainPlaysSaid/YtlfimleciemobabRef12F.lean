/- The reference's Trim, all ways. -/
import Derived.Test.YtlfimleciemobabRef12E
set_option linter.unusedVariables false
set_option linter.unusedSimpArgs false
namespace Go.Proofs.Ytlfimleciemobab
open Go.RowKit PrintLast

theorem rtrim_any {G : Nat → Prop} {w : World} {A : Option Addr} {c : Nat} {us : List Ver} {last x : Int} (h : RdAt w G A c us) (hr : Rising us) :
    Calls Try.prog 17 #[.agg #[.slice A us.length c, .int .i64 last], .int .i64 x] w fun e w' => ∃ A' c', e = .returned (.tuple #[.agg #[.slice A' (us.drop (trimN us x)).length c', .int .i64 last], .int .i64 (trimN us x : Int)]) ∧ RdAt w' G A' c' (us.drop (trimN us x)) ∧ Below w.heap.size w w' := by
  obtain ⟨t1, t2, t3⟩ := trimN_spec us x
  have hcl := cnt_le us x
  have hcap := h.1
  by_cases h0 : cnt us x = 0
  · rw [t2 h0]
    exact (rtrim_zero h hr h0).mono fun e w' ⟨he, hb⟩ => ⟨A, c, by simpa using he, by simpa using h.below hb, hb⟩
  · obtain ⟨m, hm⟩ : ∃ m, cnt us x = m + 1 := ⟨cnt us x - 1, by omega⟩
    have hmu : m < us.length := by omega
    rw [t3 m hmu hm]
    obtain ⟨b, o, _, _, rfl, _⟩ := h.at_ m hmu
    by_cases hg : us[m].gone = true
    · rw [if_pos hg]
      by_cases hc : c = m + 1
      · subst hc
        have hl : us.drop (m + 1) = [] := List.drop_eq_nil_of_le (by omega)
        rw [hl]
        exact (rtrim_full h hr hm hmu hg).mono fun e w' ⟨he, hb⟩ => ⟨_, 0, by simpa using he, RdAt.none_left, hb⟩
      · exact (rtrim_gone h hr hm hmu hg hc).mono fun e w' ⟨he, hb⟩ => ⟨_, c - (m + 1), by rw [List.length_drop]; simpa using he, (h.drop (m + 1) (by omega)).below hb, hb⟩
    · rw [if_neg hg]
      exact (rtrim_at h hr hm hmu (by simpa using hg)).mono fun e w' ⟨he, hb⟩ => ⟨_, c - m, by rw [List.length_drop]; exact he, (h.drop m (by omega)).below hb, hb⟩
end Go.Proofs.Ytlfimleciemobab
