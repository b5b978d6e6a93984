/- The walk of the reference's Open. -/
import Derived.Test.YtponofojildbmaaDoorWalO
set_option linter.unusedVariables false
set_option linter.unusedSimpArgs false
namespace Go.Proofs.YtponofojildbmaaDoor
open Go.RowKit PrintLast

def roN (t : RS) : Nat := (scanB t.p).2
def roE (t : RS) : Int := if roN t < t.p.length then t.errno else 0
def roS (t : RS) : RS := if roN t < t.p.length then t.cuts (roN t) else t
theorem rerrno_ok (t : RS) : t.errno = 0 ∨ t.errno = 9 := by unfold RS.errno; split <;> simp
/-- What the reference's Open leaves. -/
def ROpened (w : World) (b' : Nat) (r' : Option Nat) (t : RS) (e : Ending) (w' : World) : Prop :=
  ∃ r1, RefAt w' b' r1 (roS t) ∧ Next w r' r1 ∧ Keeps (Foot b' r') w w' ∧
    ((roE t = 0 ∧ ∃ R c ps, e = .returned (.tuple #[.slice R ps.length c, .int .i64 (roN t : Int), .int .i64 0]) ∧ Listed w' w.heap.size R c ps ∧ texts ps = (scanB t.p).1) ∨
    (roE t = 9 ∧ e = .returned (.tuple #[.slice none 0 0, .int .i64 0, .int .i64 9])))

set_option maxRecDepth 100000 in
set_option maxHeartbeats 3200000 in
theorem ropen_at {w : World} {b' : Nat} {r' : Option Nat} {t : RS} (h : RefAt w b' r' t) (hbig : t.p.length ≤ 10000000) :
    Calls Tryd.prog 25 #[.pointer (some ⟨b', 0, none⟩)] w (ROpened w b' r' t) := by
  have l1 := h.lt
  obtain ⟨A, c, g1, g2, g3, g4, g5, g6⟩ := id h
  obtain ⟨n, hn⟩ : ∃ n, n = t.p.length := ⟨_, rfl⟩
  have HN := hid hn
  have hnb : n ≤ 10000000 := by rw [hn]; exact hbig
  have c0 := cell_at g1 (i := 0) (v := .slice A t.p.length c) rfl
  rw [← hn] at c0
  have r1 : Row w 0 A c t.p := g2
  have H := hid (rscan_gave hn.symm r1 (by omega))
  have HH := hid h
  have L1 := hid l1
  clear g1 g2 g3 g4 g5 g6 hn r1 h l1
  go_enter Tryd.func25, Tryd.ntmps25
  go_wp2_with fail
  refine H.out.mono ?_
  rintro e w2 ⟨R, c2, ps, rfl, lp, hps, b2⟩
  obtain ⟨m, hm⟩ : ∃ m, m = roN t := ⟨_, rfl⟩
  have hm' : (scanB t.p).2 = m := by rw [hm]; rfl
  have hmn : m ≤ n := by rw [hm, HN.out]; exact (scanB_le _ t.p rfl).1
  rw [hm']
  have HM := hid hm
  have HPS := hid hps
  have e2 := HH.out.keeps (Keeps.of_below (S := fun _ => False) b2) (fun e => e) (fun _ _ e => e)
  have k2 : Keeps (Foot b' r') w w2 := Keeps.of_below b2
  have c2' := below_cell b2 c0
  have sw2 := b2.size
  by_cases hlt : m < n
  · have t1 : decide ((m : Int) < (n : Int)) = true := by simp; omega
    have t1' : decide (m < n) = true := by simp [hlt]
    have oS : roS t = t.cuts (m : Int) := by unfold roS; rw [← HM.out, if_pos (by rw [← HN.out]; exact hlt)]
    have oE : roE t = t.errno := by unfold roE; rw [← HM.out, if_pos (by rw [← HN.out]; exact hlt)]
    have H := hid (rcut_any e2 (n := (m : Int)) (by rw [← HN.out]; omega))
    have OO := hid (And.intro oS oE)
    have fin : Hid (∀ (r1 : Option Nat) (w3 : World), RefAt w3 b' r1 (t.cuts (m : Int)) → Next w2 r' r1 → Keeps (Foot b' r') w2 w3 → RefAt w3 b' r1 (roS t) ∧ Next w r' r1 ∧ Keeps (Foot b' r') w w3 ∧ Listed w3 w.heap.size R c2 ps) := hid (fun r1 w3 q1 q2 q3 => by
      refine ⟨by rw [OO.out.1]; exact q1, fun k hk => ?_, k2.then q3 (fun k _ e => e), lp.keeps q3 (fun k hk => ?_)⟩
      · rcases q2 k hk with e | e
        · exact .inl e
        · exact .inr (by omega)
      · rcases hk with e | e
        · have := L1.out.1; omega
        · exact L1.out.2 k e)
    clear hlt oS oE e2 lp hps b2 hm hm' c0 k2
    go_wp2_with fail
    refine H.out.mono ?_
    rintro e w3 ⟨rfl, r1, q1, q2, q3⟩
    obtain ⟨f1, f2, f3, f4⟩ := fin.out r1 w3 q1 q2 q3
    clear q1 q2 q3 H fin c2'
    rcases rerrno_ok t with he | he
    · rw [he]
      have HE := hid (show roE t = 0 by rw [OO.out.2, he])
      clear he
      go_wp2
      go_ret3
      exact ⟨r1, f1, f2, f3, .inl ⟨HE.out, R, c2, ps, by rw [← HM.out]; rfl, f4, HPS.out⟩⟩
    · rw [he]
      have HE := hid (show roE t = 9 by rw [OO.out.2, he])
      clear he
      go_wp2
      go_ret3
      exact ⟨r1, f1, f2, f3, .inr ⟨HE.out, rfl⟩⟩
  · have t1 : decide ((m : Int) < (n : Int)) = false := by simp; omega
    have t1' : decide (m < n) = false := by simp [hlt]
    have oS : roS t = t := by unfold roS; rw [← HM.out, if_neg (by rw [← HN.out]; exact hlt)]
    have oE : roE t = 0 := by unfold roE; rw [← HM.out, if_neg (by rw [← HN.out]; exact hlt)]
    have OO := hid (And.intro oS oE)
    clear hlt oS oE hps b2 hm hm' c0
    go_wp2
    go_ret3
    exact ⟨r', by rw [OO.out.1]; exact e2, fun k hk => .inl hk, k2, .inl ⟨OO.out.2, R, c2, ps, by rw [← HM.out]; rfl, lp, HPS.out⟩⟩
end Go.Proofs.YtponofojildbmaaDoor
