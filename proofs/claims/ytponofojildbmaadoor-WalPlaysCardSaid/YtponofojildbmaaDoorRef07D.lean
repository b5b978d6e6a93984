/- The reference's Cut where it cuts. -/
import Derived.Test.YtponofojildbmaaDoorRef07C
set_option linter.unusedVariables false
set_option linter.unusedSimpArgs false
namespace Go.Proofs.YtponofojildbmaaDoor
open Go.RowKit PrintLast

/-- The first k bytes joined with none. -/
theorem join_take {w : World} {A : Option Addr} {c : Nat} {l : List UInt8} {k : Nat} (h : BSA w A c l) (hk : k ≤ l.length) (hbig : l.length ≤ 140737488355328) :
    Calls Tryd.prog 13 #[.slice A k c, .slice none 0 0] w fun e w' => ∃ A' c', e = .returned (.slice A' k c') ∧ Made w w' (.slice A' (l.take k).length c') (l.take k) := by
  have hkl : (l.take k).length = k := by simp; omega
  have J := join_any (h.take k) (BSA.nil w) (by simp; omega)
  simp only [hkl, List.append_nil, List.length_nil, Nat.add_zero] at J
  rw [hkl]
  exact J

theorem rcut_cut {w : World} {b : Nat} {r : Option Nat} {s : RS} {k : Nat} (C : Called w b r s) (hk : k < s.p.length) (hbig : s.p.length ≤ 140737488355328) :
    Calls Tryd.prog 42 #[.pointer (some ⟨b, 0, none⟩), .int .i64 (k : Int)] w fun e w' => e = .returned (.int .i64 0) ∧ ∃ r', RefAt w' b r' { s with p := s.p.take k, safe := k } ∧ Next w r r' ∧ Keeps (Foot b r) w w' := by
  have HC := hid C
  have hkl : (s.p.take k).length = k := by simp; omega
  clear C
  go_enter Tryd.func42, Tryd.ntmps42
  go_wp2_with fail
  refine HC.out.mono ?_
  rintro e w1 ⟨rfl, h1, k1⟩
  obtain ⟨A, c, g1, gb, _, _, _⟩ := h1.set
  have HJ := hid (join_take gb (Nat.le_of_lt hk) hbig)
  have hlc : s.p.length ≤ c := gb.1
  have c0 := cell_at g1 (i := 0) (v := .slice A s.p.length c) rfl
  have hd0 : decide ((k : Int) < 0) = false := by simp
  have hlt : decide ((k : Int) < (s.p.length : Int)) = true := by simp; omega
  have hkc : k ≤ c := by omega
  clear gb HC
  go_wp2_with fail
  refine HJ.out.mono ?_
  rintro e w2 ⟨A', c', rfl, m⟩
  obtain ⟨v, q1, q2, q3, q4⟩ := ref_cut k1 h1 m
  simp only [hkl] at q2 q3 q4
  have HF := hid (And.intro q2 (And.intro q3 q4))
  have p0 := free_at q1 0
  have p1 := below_cell m.2.2 c0
  have p2 := free_at q1 1
  have p3 := below_cell m.2.2 (cell_at g1 (i := 1) (v := .int .i64 (s.safe : Int)) rfl)
  clear q1 q2 q3 q4 m h1 k1 HJ g1 c0
  go_wp2
  go_ret
  exact ⟨rfl, _, HF.out.1, fun k hk => .inr (HF.out.2.1 k hk), HF.out.2.2.mono fun k _ e => .inl e⟩

theorem rcut_cut0 {w : World} {b : Nat} {r : Option Nat} {s : RS} {n : Int} (C : Called w b r s) (h0 : n < 0) (hk : 0 < s.p.length) (hbig : s.p.length ≤ 140737488355328) :
    Calls Tryd.prog 42 #[.pointer (some ⟨b, 0, none⟩), .int .i64 n] w fun e w' => e = .returned (.int .i64 0) ∧ ∃ r', RefAt w' b r' { s with p := s.p.take 0, safe := 0 } ∧ Next w r r' ∧ Keeps (Foot b r) w w' := by
  have HC := hid C
  have hkl : (s.p.take 0).length = 0 := by simp
  clear C
  have hd0 : decide (n < 0) = true := by simp [h0]
  go_enter Tryd.func42, Tryd.ntmps42
  go_wp2_with fail
  refine HC.out.mono ?_
  rintro e w1 ⟨rfl, h1, k1⟩
  obtain ⟨A, c, g1, gb, _, _, _⟩ := h1.set
  have HJ := hid (join_take gb (Nat.zero_le _) hbig)
  have hlc : s.p.length ≤ c := gb.1
  have c0 := cell_at g1 (i := 0) (v := .slice A s.p.length c) rfl
  have hlt : decide ((0 : Int) < (s.p.length : Int)) = true := by simpa using hk
  have hkc : 0 ≤ c := by omega
  clear gb HC h0
  go_wp2_with fail
  refine HJ.out.mono ?_
  rintro e w2 ⟨A', c', rfl, m⟩
  obtain ⟨v, q1, q2, q3, q4⟩ := ref_cut k1 h1 m
  simp only [hkl] at q2 q3 q4
  have HF := hid (And.intro q2 (And.intro q3 q4))
  have p0 := free_at q1 0
  have p1 := below_cell m.2.2 c0
  have p2 := free_at q1 1
  have p3 := below_cell m.2.2 (cell_at g1 (i := 1) (v := .int .i64 (s.safe : Int)) rfl)
  clear q1 q2 q3 q4 m h1 k1 HJ g1 c0
  go_wp2
  go_ret
  exact ⟨rfl, _, HF.out.1, fun k hk => .inr (HF.out.2.1 k hk), HF.out.2.2.mono fun k _ e => .inl e⟩

theorem rcut_any {w : World} {b : Nat} {r : Option Nat} {s : RS} {n : Int} (h : RefAt w b r s) (hbig : s.p.length ≤ 140737488355328) :
    Calls Tryd.prog 42 #[.pointer (some ⟨b, 0, none⟩), .int .i64 n] w fun e w' => e = .returned (.int .i64 s.errno) ∧ ∃ r', RefAt w' b r' (s.cuts n) ∧ Next w r r' ∧ Keeps (Foot b r) w w' := by
  have C := rcall_any h
  cases ho : s.ok with
  | false =>
    have e : s.errno = 9 ∧ s.cuts n = s ∧ s.called = s := ⟨by simp [RS.errno, ho], by simp [RS.cuts, ho], by
      obtain ⟨p, sf, cl⟩ := s
      simp [RS.ok] at ho
      simp [RS.called, ho]⟩
    rw [ho] at C
    rw [e.1, e.2.1]
    rw [e.2.2] at C
    exact rcut_no C
  | true =>
    have e : s.errno = 0 ∧ s.cuts n = { s.called with p := s.p.take n.toNat, safe := (s.p.take n.toNat).length } := ⟨by simp [RS.errno, ho], by simp [RS.cuts, ho]⟩
    rw [ho] at C
    rw [e.1, e.2]
    have hp : s.called.p = s.p := rfl
    by_cases hc : s.p.length ≤ n.toNat
    · have et : s.p.take n.toNat = s.p := List.take_of_length_le hc
      rw [et]
      by_cases h0 : n < 0
      · exact rcut_skip0 (s := s.called) C h0 (by rw [hp]; omega)
      · exact rcut_skip (s := s.called) C h0 (by rw [hp]; omega)
    · have el : (s.p.take n.toNat).length = n.toNat := by simp; omega
      rw [el]
      by_cases h0 : n < 0
      · have e0 : n.toNat = 0 := by omega
        rw [e0]
        exact rcut_cut0 (s := s.called) C h0 (by rw [hp]; omega) hbig
      · obtain ⟨k, hk⟩ : ∃ k : Nat, n = (k : Int) := ⟨n.toNat, by omega⟩
        subst hk
        exact rcut_cut (s := s.called) C (by rw [hp]; omega) hbig
end Go.Proofs.YtponofojildbmaaDoor
