/- The walk of package chain's Trim. -/
import Derived.Test.YtlfimleciemobabChainC
set_option linter.unusedVariables false
set_option linter.unusedSimpArgs false
namespace Go.Proofs.Ytlfimleciemobab
open Go.RowKit PrintLast

/-- How many versions Trim lets go. -/
def trimN (vs : List Ver) (x : Int) : Nat := match vs[cnt vs x - 1]? with
  | some v => if cnt vs x = 0 then 0 else if v.gone = true then cnt vs x else cnt vs x - 1
  | none => 0

theorem trim_nil {w : World} (x : Int) :
    Calls Try.prog 15 #[.pointer none, .int .i64 x] w fun e w' => e = .returned (.int .i64 0) ∧ Below w.heap.size w w' := by
  go_enter Try.func15, Try.ntmps15
  go_wp2_with fail
  refine (seen_nil x).mono ?_
  rintro e w1 ⟨rfl, hb⟩
  go_wp2
  go_ret
  exact ⟨rfl, hb⟩

set_option maxHeartbeats 1600000 in
theorem trim_any {w : World} {F : Nat → Prop} {b : Nat} {vs : List Ver} {last x : Int} (h : ChainAt w F b vs last) (hr : Rising vs) (hn : vs.length < 1000000) :
    Calls Try.prog 15 #[.pointer (some ⟨b, 0, none⟩), .int .i64 x] w fun e w' => e = .returned (.int .i64 (trimN vs x : Int)) ∧ ∃ F', ChainAt w' F' b (vs.drop (trimN vs x)) last ∧ (∀ k, F' k → F k ∨ w.heap.size ≤ k) ∧ Keeps F w w' := by
  have S := seen_any h hr (by omega) x
  have hcl := cnt_le vs x
  by_cases h0 : cnt vs x = 0
  · have ht : trimN vs x = 0 := by unfold trimN; split <;> simp [h0]
    rw [ht]
    rw [h0] at S
    have C := hid S
    clear S h0 hcl ht
    go_enter Try.func15, Try.ntmps15
    go_wp2_with fail
    refine C.out.mono ?_
    rintro e w1 ⟨rfl, hb⟩
    go_wp2
    go_ret
    exact ⟨rfl, F, h.below hb, fun k hk => .inl hk, Keeps.of_below hb⟩
  · obtain ⟨m, hm⟩ : ∃ m, cnt vs x = m + 1 := ⟨cnt vs x - 1, by omega⟩
    have hml : m < vs.length := by omega
    rw [hm, show (((m + 1 : Nat) : Int) - 1) = (m : Int) by omega] at S
    have ht : trimN vs x = if vs[m].gone = true then m + 1 else m := by
      unfold trimN
      rw [hm, show m + 1 - 1 = m by omega, List.getElem?_eq_getElem hml]
      simp
    have C := hid S
    obtain ⟨i, hi⟩ : ∃ i, i = trimN vs x := ⟨_, rfl⟩
    have hil : i ≤ vs.length := by rw [hi, ht]; split <;> omega
    have hgt : vs[m].gone = true → i = m + 1 := fun e => by rw [hi, ht]; simp [e]
    have hgf : vs[m].gone = false → i = m := fun e => by rw [hi, ht]; simp [e]
    rw [← hi]
    obtain ⟨i0, ii, hz0, hz1, hz2⟩ := info_parts infoV
    clear S ht hm h0 hcl hi
    go_enter Try.func15, Try.ntmps15
    go_wp2_with fail
    refine C.out.mono ?_
    rintro e w1 ⟨rfl, hb⟩
    have hc1 := h.below hb
    obtain ⟨h1, h2, A, c, cs, g1, g2, g3, g4⟩ := hc1
    obtain ⟨R, cR, e0, e1, e2, eb, _⟩ := g4.get m hml
    have hA : ∃ g, A = some ⟨g, 0, none⟩ ∧ vs.length ≤ c ∧ c ≤ maxLen := by
      rcases g2.2 with ⟨_, h0⟩ | ⟨g, cap, cur, e, _, _, k1, k2, _⟩
      · omega
      · cases e; exact ⟨g, rfl, k1, k2⟩
    obtain ⟨g, rfl, hc, hc2⟩ := hA
    unfold maxLen at hc2
    have cb : w1.cell? ⟨g, m * 3 + 2, none⟩ = some (.bool vs[m].gone) := by
      have := g2.cells (g := g) rfl _ _ e2
      rw [add_plain] at this; exact this
    have c0 := cell_at g1 (i := 0) (v := .slice (some ⟨g, 0, none⟩) vs.length c) rfl
    have f0 := free_at g1 0
    have fin : ∀ (A2 : Option Addr) (c2 : Nat) (w2 : World), w2.ownsRow 0 57 3 (.slice A2 (vs.length - i) c2) (vs.length - i) (cs.drop (i * 3)) → w1.grownBy w2 none → ((Value.slice A2 (vs.length - i) c2).ownBlock = none ∨ (Value.slice A2 (vs.length - i) c2).ownBlock = some w1.heap.size) →
        ∃ F', ChainAt (w2.setCell ⟨b, 0, none⟩ (.slice A2 (vs.length - i) c2)) F' b (vs.drop i) last ∧ (∀ k, F' k → F k ∨ w.heap.size ≤ k) ∧ Keeps F w (w2.setCell ⟨b, 0, none⟩ (.slice A2 (vs.length - i) c2)) := by
      intro A2 c2 w2 m1 m2 m3
      have s1 := hb.size
      have s2 := m2.size
      have hbw := h2 b h1
      have f1 := (m2.block b hbw (fun e => by cases e)).trans g1
      have oB : ∀ k, (Value.slice A2 (vs.length - i) c2).ownBlock = some k → k = w1.heap.size ∧ k < w2.heap.size := fun k e => ⟨by
        rcases m3 with m3 | m3
        · rw [m3] at e; cases e
        · rw [m3] at e; exact (Option.some.inj e).symm, (m1.lt k e).2⟩
      have oC : ∀ k, (Value.slice A2 (vs.length - i) c2).ownBlock = some k → k ≠ b := fun k e hk => by have := oB k e; omega
      have K1 : Keeps (fun k => k = b) w1 (w2.setCell ⟨b, 0, none⟩ (.slice A2 (vs.length - i) c2)) := ((Keeps.refl (fun k => k = b) w1).grown m2 (fun k e _ => by cases e)).setCell (p := ⟨b, 0, none⟩) (fun _ => rfl) _
      refine ⟨fun k => F k ∨ k = w1.heap.size ∧ k < w2.heap.size, ⟨.inl h1, fun k hk => ?_, A2, c2, cs.drop (i * 3), ?_, ?_, fun k e => ?_, ?_⟩, fun k hk => ?_, ((Keeps.refl F w).below hb).then K1 (fun k _ e => by subst e; exact h1)⟩
      · rcases hk with hk | hk
        · have := h2 k hk; simp [World.setCell]; omega
        · simp [World.setCell]; omega
      · rw [heap_set f1]; simp
      · have o1 := ownsRow_setCell_other m1 (a := ⟨b, 0, none⟩) (fun e => oC b e rfl) (.slice A2 (vs.length - i) c2)
        simpa using o1
      · have e' : (Value.slice A2 (vs.length - i) c2).ownBlock = some k := by simpa using e
        exact ⟨.inr (oB k e'), oC k e'⟩
      · have g5 := g4.drop i
        simp only [List.length_drop]
        exact g5.mono (fun k hk => ⟨.inl hk.1, hk.2.1, fun e => by have := oB k e; have := h2 k hk.1; omega⟩) (fun R' c' row' hb' hF => hb'.keeps K1 (fun ad e hh => (hF ad e).2.1 hh))
      · rcases hk with hk | hk
        · exact .inl hk
        · exact .inr (by omega)
    have FF := hid fin
    have one := VersAt.one g4
    have csl := VersAt.length g4
    have cells := fun j u (hu : cs[j]? = some u) => g2.cells (g := g) rfl j u hu
    have HC := hid cells
    have b1 := h2 b h1
    clear fin cells e0 e1 e2 eb C hr g4 h
    cases hgo : vs[m].gone with
    | true =>
      obtain rfl := hgt hgo
      rw [hgo] at cb
      clear hgo hgt hgf
      by_cases hce : c = m + 1
      · subst hce
        have e0 : vs.length - (m + 1) = 0 := by omega
        have ed : cs.drop ((m + 1) * 3) = [] := List.drop_eq_nil_of_le (by omega)
        have FF' := FF.out
        rw [e0, ed] at FF'
        have FE := hid FF'
        clear FF' FF ed
        go_wp2_with (at_builtin; refine wpList_app rfl (.const (.slice none 0 0)) (.tmp 27) 52 rfl 57 i0 (.agg #[.int .i64 0, .slice none 0 0, .bool false]) 3 40 Try.underlying52 ii hz0 hz1 hz2 rfl (by decide) _ 0 [] rfl (World.ownsRow_nil _ _ _ _) _ 0 0 [] rfl rfl (fun e => by cases e) (fun ad e j u hu => by simp at hu) (fun u hu => by simp at hu) (by unfold maxLen; omega) (by omega) ?_)
        intro A2 c2 w2 m1 m2 m3 m4 m5
        subst m4 m5
        try simp only [Nat.zero_add, List.nil_append] at m1 m3 ⊢
        have F1 := hid (FE.out none 0 w2 m1 m2 (.inl rfl))
        have q0 := m2.block b b1 (fun e => by cases e)
        have q1 := q0.trans g1
        have r0 := cell_at q1 (i := 0) (v := .slice (some ⟨g, 0, none⟩) vs.length (m + 1)) rfl
        have r1 := free_at q1 0
        clear q0 q1 m1 m2 m3 HC g1 g2 g3 one csl
        go_wp2
        go_ret
        exact ⟨rfl, F1.out⟩
      · have hce' : (c = m + 1) = False := by simp [hce]
        go_wp2_with (at_builtin; refine wpList_app rfl (.const (.slice none 0 0)) (.tmp 27) 52 rfl 57 i0 (.agg #[.int .i64 0, .slice none 0 0, .bool false]) 3 40 Try.underlying52 ii hz0 hz1 hz2 rfl (by decide) _ 0 [] rfl (World.ownsRow_nil _ _ _ _) _ (vs.length - (m + 1)) (c - (m + 1)) (cs.drop ((m + 1) * 3)) rfl ?tdHL ?tdHN ?tdNW ?tdON ?tdB1 ?tdB2 ?_)
        case tdHL => simp only [List.length_drop, csl, Nat.sub_mul]
        case tdHN => intro e; cases e
        case tdNW =>
          intro ad e j u hu
          have hj : j + (m + 1) * 3 < cs.length := by have := (List.getElem?_eq_some_iff.1 hu).1; simp at this; omega
          cases e
          rw [List.getElem?_drop] at hu
          have := HC.out _ _ hu
          rw [add_plain] at this
          rw [show ∀ o n : Nat, (⟨g, o, none⟩ : Addr).add n = ⟨g, o + n, none⟩ from fun o n => by unfold Addr.add; split <;> simp_all]
          exact this
        case tdON => exact fun u hu => one u (List.mem_of_mem_drop hu)
        case tdB1 => unfold maxLen; omega
        case tdB2 => omega
        intro A2 c2 w2 m1 m2 m3 m4
        try simp only [Nat.zero_add, List.nil_append] at m1 m3 m4 ⊢
        clear m4
        have F1 := hid (FF.out A2 c2 w2 m1 m2 m3)
        have q0 := m2.block b b1 (fun e => by cases e)
        have q1 := q0.trans g1
        have r0 := cell_at q1 (i := 0) (v := .slice (some ⟨g, 0, none⟩) vs.length c) rfl
        have r1 := free_at q1 0
        clear q0 q1 m1 m2 m3 FF HC g1 g2 g3 one csl
        go_wp2
        go_ret
        exact ⟨rfl, F1.out⟩
    | false =>
      obtain rfl := hgf hgo
      rw [hgo] at cb
      clear hgo hgt hgf
      go_wp2_with (at_builtin; refine wpList_app rfl (.const (.slice none 0 0)) (.tmp 27) 52 rfl 57 i0 (.agg #[.int .i64 0, .slice none 0 0, .bool false]) 3 40 Try.underlying52 ii hz0 hz1 hz2 rfl (by decide) _ 0 [] rfl (World.ownsRow_nil _ _ _ _) _ (vs.length - i) (c - i) (cs.drop (i * 3)) rfl ?dHL ?dHN ?dNW ?dON ?dB1 ?dB2 ?_)
      case dHL => simp only [List.length_drop, csl, Nat.sub_mul]
      case dHN => intro e; cases e
      case dNW =>
        intro ad e j u hu
        have hj : j + i * 3 < cs.length := by have := (List.getElem?_eq_some_iff.1 hu).1; simp at this; omega
        cases e
        rw [List.getElem?_drop] at hu
        have := HC.out _ _ hu
        rw [add_plain] at this
        rw [show ∀ o n : Nat, (⟨g, o, none⟩ : Addr).add n = ⟨g, o + n, none⟩ from fun o n => by unfold Addr.add; split <;> simp_all]
        exact this
      case dON => exact fun u hu => one u (List.mem_of_mem_drop hu)
      case dB1 => unfold maxLen; omega
      case dB2 => omega
      intro A2 c2 w2 m1 m2 m3 m4
      try simp only [Nat.zero_add, List.nil_append] at m1 m3 m4 ⊢
      clear m4
      have F1 := hid (FF.out A2 c2 w2 m1 m2 m3)
      have q0 := m2.block b b1 (fun e => by cases e)
      have q1 := q0.trans g1
      have r0 := cell_at q1 (i := 0) (v := .slice (some ⟨g, 0, none⟩) vs.length c) rfl
      have r1 := free_at q1 0
      clear q0 q1 m1 m2 m3 FF HC g1 g2 g3 one csl
      go_wp2
      go_ret
      exact ⟨rfl, F1.out⟩
end Go.Proofs.Ytlfimleciemobab
