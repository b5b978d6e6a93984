/- The reference's chain in memory ('RdAt': what is read of a row of versions), and the walk of seen. -/
import Derived.Test.YtlfimleciemobabChainE
import Derived.Test.YtlfimleciemobabChainP
set_option linter.unusedVariables false
set_option linter.unusedSimpArgs false
namespace Go.Proofs.Ytlfimleciemobab
open Go.RowKit PrintLast

/-- The versions us are read at A; all that they lie in lies in G. -/
def RdAt (w : World) (G : Nat → Prop) (A : Option Addr) (c : Nat) (us : List Ver) : Prop :=
  us.length ≤ c ∧ c ≤ maxLen ∧ (A = none → c = 0) ∧ ∃ cs, VersAt w G us cs ∧ ∀ ad, A = some ad → 0 < us.length → G ad.block ∧ ∀ i (hi : i < cs.length), w.cell? (ad.add i) = some cs[i]

theorem RdAt.nil (w : World) (G : Nat → Prop) : RdAt w G none 0 [] := ⟨Nat.le_refl _, by unfold maxLen; omega, fun _ => rfl, [], rfl, fun ad e => by cases e⟩
theorem RdAt.keeps {S G : Nat → Prop} {w w' : World} {A : Option Addr} {c : Nat} {us : List Ver} (h : RdAt w G A c us) (hk : Keeps S w w') (hn : ∀ k, G k → ¬ S k) : RdAt w' G A c us := by
  obtain ⟨h1, h2, h3, cs, h4, h5⟩ := h
  refine ⟨h1, h2, h3, cs, h4.mono (fun _ e => e) (fun R c row hb hF => hb.keeps hk (fun ad e => hn _ (hF ad e))), fun ad e hl => ⟨(h5 ad e hl).1, fun i hi => ?_⟩⟩
  have := (h5 ad e hl).2 i hi
  have e0 : (ad.add i).block = ad.block := by unfold Addr.add; split <;> rfl
  exact hk.cell this (by rw [e0]; exact hn _ (h5 ad e hl).1)
theorem RdAt.below {G : Nat → Prop} {w w' : World} {A : Option Addr} {c : Nat} {us : List Ver} (h : RdAt w G A c us) (hb : Below w.heap.size w w') : RdAt w' G A c us :=
  h.keeps (S := fun _ => False) (Keeps.of_below hb) (fun _ _ e => e)
/-- Version j, its place written out. -/
theorem RdAt.at_ {G : Nat → Prop} {w : World} {A : Option Addr} {c : Nat} {us : List Ver} (h : RdAt w G A c us) (j : Nat) (hj : j < us.length) : ∃ b o R d, A = some ⟨b, o, none⟩ ∧ w.cell? ⟨b, o + j * 3, none⟩ = some (.int .i64 us[j].at_) ∧ w.cell? ⟨b, o + j * 3 + 1, none⟩ = some (.slice R us[j].row.length d) ∧ w.cell? ⟨b, o + j * 3 + 2, none⟩ = some (.bool us[j].gone) ∧ BSA w R d us[j].row ∧ (∀ ad, R = some ad → G ad.block) := by
  obtain ⟨h1, h2, h3, cs, h4, h5⟩ := h
  cases A with
  | none => have := h3 rfl; omega
  | some ad =>
    obtain ⟨hG, hc⟩ := h5 ad rfl (by omega)
    have hl := h4.length
    obtain ⟨R, d, g1, g2, g3, g4, g5⟩ := h4.get j hj
    obtain ⟨b, o, sp⟩ := ad
    have hs : sp = none := by
      have := hc 0 (by omega)
      simpa [Addr.add] using World.cell?_spot this
    subst hs
    have hadd : ∀ i, (⟨b, o, none⟩ : Addr).add i = ⟨b, o + i, none⟩ := fun i => by unfold Addr.add; split <;> simp_all
    have q : ∀ i v, cs[i]? = some v → w.cell? ⟨b, o + i, none⟩ = some v := fun i v e => by
      obtain ⟨hi, e'⟩ := List.getElem?_eq_some_iff.1 e
      have := hc i hi
      rw [hadd, e'] at this
      exact this
    exact ⟨b, o, R, d, rfl, q _ _ g1, q _ _ g2, q _ _ g3, g4, g5⟩

set_option maxHeartbeats 800000 in
theorem rseen_any {G : Nat → Prop} {w : World} {A : Option Addr} {c : Nat} {us : List Ver} {last x : Int} (h : RdAt w G A c us) (hr : Rising us) :
    Calls Try.prog 23 #[.agg #[.slice A us.length c, .int .i64 last], .int .i64 x] w fun e w' => e = .returned (.int .i64 ((cnt us x : Int) - 1)) ∧ Below w.heap.size w w' := by
  have hcap := h.1
  have hcm := h.2.1
  unfold maxLen at hcm
  have hw : RdAt (w.alloc (.cells #[.slice A us.length c, .int .i64 last] 38)) G A c us := h.below ((Below.refl _ w).alloc (Nat.le_refl _) _)
  have x0 := cell_at (heap_alloc_new w (.cells #[.slice A us.length c, .int .i64 last] 38)) (i := 0) (v := .slice A us.length c) rfl
  go_enter Try.func23, Try.ntmps23
  go_wp2
  have hcl := cnt_le us x
  go_loopw [5, 6] (fun n i wr => ∃ k : Nat, k ≤ us.length ∧ i = .int .i64 k ∧ wr = w.alloc (.cells #[.slice A us.length c, .int .i64 last] 38) ∧ ∃ m : Int, n = .int .i64 m ∧ Hid (m = ((min (cnt us x) k : Nat) : Int) - 1)) (fun _ i _ => us.length - (intOf i).toNat)
  case atStart => exact ⟨0, Nat.zero_le _, rfl, rfl, -1, rfl, hid (by simp)⟩
  case round =>
    obtain ⟨k, hk, rfl, rfl, m, rfl, hm⟩ := hrel
    by_cases hlt : k < us.length
    · obtain ⟨b, o, R, d, rfl, y0, _⟩ := hw.at_ k hlt
      by_cases hx : us[k].at_ ≤ x
      · have t1 : decide (us[k].at_ ≤ x) = true := by simp [hx]
        have N : Hid ((k : Int) = ((min (cnt us x) (k + 1) : Nat) : Int) - 1) := hid (by
          by_cases hc : cnt us x ≤ k
          · have := cnt_ge hr hlt hc; omega
          · omega)
        clear hx
        go_wp2
        go_roundw
        case rel => exact ⟨k + 1, by omega, by go_num, trivial, k, rfl, N⟩
        case measure => simp [intOf]; omega
      · have t1 : decide (us[k].at_ ≤ x) = false := by simp; omega
        have N : Hid (m = ((min (cnt us x) (k + 1) : Nat) : Int) - 1) := hid (by
          have := hm.out
          by_cases hc : k < cnt us x
          · exact absurd (cnt_lt hlt hc) hx
          · omega)
        clear hx
        go_wp2
        go_roundw
        case rel => exact ⟨k + 1, by omega, by go_num, trivial, m, rfl, N⟩
        case measure => simp [intOf]; omega
    · have e : m = (cnt us x : Int) - 1 := by have := hm.out; omega
      have HE := hid e
      clear e hm
      go_wp2
      go_ret
      exact ⟨by rw [HE.out]; rfl, below_alloc (Below.refl _ _) _⟩
end Go.Proofs.Ytlfimleciemobab
