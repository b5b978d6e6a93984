/- The walks of the reference's Get, Trim, Put. -/
import Derived.Test.YtlfimleciemobabRef12
set_option linter.unusedVariables false
set_option linter.unusedSimpArgs false
namespace Go.Proofs.Ytlfimleciemobab
open Go.RowKit PrintLast

theorem rget_any {G : Nat → Prop} {w : World} {A : Option Addr} {c : Nat} {us : List Ver} {last x : Int} (h : RdAt w G A c us) (hr : Rising us) :
    Calls Try.prog 18 #[.agg #[.slice A us.length c, .int .i64 last], .int .i64 x] w fun e w' => ∃ R d, e = .returned (.tuple #[.slice R (got us x).1.length d, .bool (got us x).2]) ∧ BSA w' R d (got us x).1 ∧ (∀ ad, R = some ad → G ad.block) ∧ Below w.heap.size w w' := by
  have hw : RdAt (w.alloc (.cells #[.slice A us.length c, .int .i64 last] 38)) G A c us := h.below ((Below.refl _ w).alloc (Nat.le_refl _) _)
  have gw := heap_alloc_new w (.cells #[.slice A us.length c, .int .i64 last] 38)
  have x0 := cell_at gw (i := 0) (v := .slice A us.length c) rfl
  have x1 := cell_at gw (i := 1) (v := .int .i64 last) rfl
  have S := rseen_any (last := last) (x := x) hw hr
  have hcl := cnt_le us x
  have hcap := h.1
  have hcm := h.2.1
  unfold maxLen at hcm
  rcases Nat.eq_zero_or_pos (cnt us x) with h0 | h0
  · rw [got_zero h0]
    rw [h0] at S
    have HS := hid S
    clear S h0
    go_enter Try.func18, Try.ntmps18
    go_wp2_with fail
    refine HS.out.mono ?_
    rintro e w1 ⟨rfl, hb⟩
    go_wp2
    go_ret2
    exact ⟨none, 0, rfl, BSA.nil _, (fun ad e => by cases e), ((Below.refl _ w).alloc (Nat.le_refl _) _).trans (hb.mono (by simp))⟩
  · obtain ⟨m, hm⟩ : ∃ m, cnt us x = m + 1 := ⟨cnt us x - 1, by omega⟩
    have hmu : m < us.length := by omega
    have eS : ((cnt us x : Int) - 1) = (m : Int) := by omega
    rw [eS] at S
    rw [got_of hmu hm]
    have HS := hid S
    clear S h0 hm eS
    obtain ⟨b, o, R, d, rfl, y0, y1, y2, hrow, hG⟩ := hw.at_ m hmu
    by_cases hgone : us[m].gone = true
    · rw [if_pos hgone]
      rw [hgone] at y2
      clear hgone
      go_enter Try.func18, Try.ntmps18
      go_wp2_with fail
      refine HS.out.mono ?_
      rintro e w1 ⟨rfl, hb⟩
      have z0 := below_cell hb x0
      have z2 := below_cell hb y2
      clear x0 x1 y0 y1 y2
      go_wp2
      go_ret2
      exact ⟨none, 0, rfl, BSA.nil _, (fun ad e => by cases e), ((Below.refl _ w).alloc (Nat.le_refl _) _).trans (hb.mono (by simp))⟩
    · rw [if_neg hgone]
      have hgf : us[m].gone = false := by simpa using hgone
      rw [hgf] at y2
      clear hgone hgf
      go_enter Try.func18, Try.ntmps18
      go_wp2_with fail
      refine HS.out.mono ?_
      rintro e w1 ⟨rfl, hb⟩
      have z0 := below_cell hb x0
      have z1 := below_cell hb y1
      have z2 := below_cell hb y2
      clear x0 x1 y0 y1 y2
      go_wp2
      go_ret2
      exact ⟨R, d, rfl, hrow.below hb, hG, ((Below.refl _ w).alloc (Nat.le_refl _) _).trans (hb.mono (by simp))⟩
end Go.Proofs.Ytlfimleciemobab
