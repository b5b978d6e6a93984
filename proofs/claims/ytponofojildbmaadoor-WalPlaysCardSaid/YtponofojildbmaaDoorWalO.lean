/- The walks of the program's Open, and of the reference's. -/
import Derived.Test.YtponofojildbmaaDoorWalF
import Derived.Test.YtponofojildbmaaDoorPair
import Derived.OwnWalk
set_option linter.unusedVariables false
set_option linter.unusedSimpArgs false
namespace Go.Proofs.YtponofojildbmaaDoor
open Go.RowKit PrintLast

theorem RefAt.uniq {w : World} {b : Nat} {r r' : Option Nat} {s : RS} (h : RefAt w b r s) (h' : RefAt w b r' s) : r = r' := by
  obtain ⟨A, c, h1, _, h3, _⟩ := h
  obtain ⟨A', c', h1', _, h3', _⟩ := h'
  rw [h1] at h1'
  have e := (Obj.cells.inj (Option.some.inj h1')).1
  have e2 : (rcells (.slice A s.p.length c) s.safe s.calls)[0]? = (rcells (.slice A' s.p.length c') s.safe s.calls)[0]? := by rw [e]
  have e3 : Value.slice A s.p.length c = Value.slice A' s.p.length c' := by simpa [rcells] using e2
  rw [← h3, ← h3', e3]
theorem Listed.keeps {S : Nat → Prop} {w w' : World} {B c : Nat} {A : Option Addr} {ps : List Part} (h : Listed w B A c ps) (hk : Keeps S w w') (hS : ∀ k, S k → k < B) : Listed w' B A c ps :=
  ⟨hk.own h.1 (fun k e hs => by have := (h.1.lt k e).1; have := hS k hs; omega), fun x hx => (h.2 x hx).keeps hk (fun ad e hs => by
    have h1 := (h.2 x hx).lt ad.block (by rw [e]; rfl)
    have := hS _ hs
    omega)⟩
/-- How many bytes of frames. -/
def opN (s : DS) : Nat := (scanB s.p).2
def opE (s : DS) : Int := if opN s < s.p.length then s.errno else 0
def opS (s : DS) : DS := if opN s < s.p.length then s.cuts (opN s) else s
theorem opN_le (s : DS) : opN s ≤ s.p.length := (scanB_le _ s.p rfl).1
theorem errno_ok (s : DS) : s.errno = 0 ∨ s.errno = 9 := by unfold DS.errno; split <;> simp
def logO (b n : Nat) : Obj := .cells #[.pointer (some ⟨b, 0, none⟩), .int .i64 (n : Int)] 74
/-- What Open leaves. -/
def Opened (w : World) (B b b' : Nat) (s : DS) (t : RS) (e : Ending) (w' : World) : Prop :=
  Below B w w' ∧ (∃ r0, RefAt w b' r0 t ∧ RefAt w' b' r0 t) ∧ ((opE s = 0 ∧ ∃ lg R c ps, e = .returned (.tuple #[.pointer (some ⟨lg, 0, none⟩), .slice R ps.length c, .int .i64 0]) ∧ Listed w' w.heap.size R c ps ∧ texts ps = (scanB s.p).1 ∧ Pair w' B b b' (opS s) t lg (logO b (opN s)) ∧ w.heap.size ≤ lg) ∨
    (opE s = 9 ∧ e = .returned (.tuple #[.pointer none, .slice none 0 0, .int .i64 9]) ∧ PairH w' B b b' (opS s) t))

set_option maxRecDepth 100000 in
set_option maxHeartbeats 3200000 in
theorem open_pd {w : World} (hT : Table w) {B b b' : Nat} (hgB : 0 < B) (hB : B ≤ w.heap.size) {s : DS} {t : RS} (h : PairH w B b b' s t) (hbig : s.p.length ≤ 10000000) :
    Calls Tryd.prog 24 #[.pointer (some ⟨b, 0, none⟩)] w (Opened w B b b' s t) := by
  obtain ⟨r, r', h1, h2, h3, h4⟩ := h
  have l1 := h1.lt
  have l2 := h2.lt
  have HR := hid (read_any h1 (by omega))
  have HB := hid hB
  obtain ⟨n, hn⟩ : ∃ n, n = s.p.length := ⟨_, rfl⟩
  have HN := hid hn
  rw [← hn] at HR
  have hnb : n ≤ 10000000 := by rw [hn]; exact hbig
  have H1 := hid h1
  have H2 := hid h2
  have H3 := hid (And.intro h3 h4)
  have L1 := hid l1
  have L2 := hid l2
  have HT := hid hT
  have HG := hid hgB
  clear h1 h2 h3 h4 l1 l2 hT hgB hB hn
  go_enter Tryd.func24, Tryd.ntmps24
  go_wp2_with fail
  refine HR.out.mono ?_
  rintro e w1 ⟨A1, c1, rfl, m1, m2, m3⟩
  have r1 : Row w1 w.heap.size A1 c1 s.p := Made.row ⟨by rw [← HN.out]; exact m1, m2, m3⟩ HN.out
  have H := hid (scan_gave (HT.out.below m3) HN.out.symm r1 (by omega))
  clear m1 m2 HR
  go_wp2_with fail
  refine H.out.mono ?_
  rintro e w2 ⟨R, c2, ps, rfl, lp, hps, b2⟩
  have B2 := below_then m3 b2
  replace lp := lp.lower m3.size
  obtain ⟨m, hm⟩ : ∃ m, m = opN s := ⟨_, rfl⟩
  have hm' : (scanB s.p).2 = m := by rw [hm]; rfl
  have hmn : m ≤ n := by rw [hm, HN.out]; exact opN_le s
  rw [hm']
  have HM := hid hm
  have HPS := hid hps
  have d2 := H1.out.keeps (Keeps.of_below (S := fun _ => False) B2) (fun e => e) (fun _ _ e => e)
  have e2 := H2.out.keeps (Keeps.of_below (S := fun _ => False) B2) (fun e => e) (fun _ _ e => e)
  have BB2 := B2.mono HB.out
  have sw2 : w.heap.size ≤ w2.heap.size := B2.size
  obtain ⟨xt, xf, hx⟩ := HT.out.below B2
  have hxl := HG.out
  have ne1 : 0 ≠ b ∧ 0 ≠ b' ∧ r ≠ some 0 ∧ r' ≠ some 0 := by
    obtain ⟨⟨q1, q2, q3, q4⟩, _⟩ := H3.out
    exact ⟨by omega, by omega, fun e => by have := q3 _ e; omega, fun e => by have := q4 _ e; omega⟩
  have P2 : Pair w2 B b b' s t 0 _ := ⟨r, r', d2, e2, H3.out.1, H3.out.2, hx, ne1⟩
  by_cases hlt : m < n
  · have t1 : decide ((m : Int) < (n : Int)) = true := by simp; omega
    have t1' : decide (m < n) = true := by simp [hlt]
    have oS : opS s = s.cuts (m : Int) := by unfold opS; rw [← HM.out, if_pos (by rw [← HN.out]; exact hlt)]
    have oE : opE s = s.errno := by unfold opE; rw [← HM.out, if_pos (by rw [← HN.out]; exact hlt)]
    have H := hid (cut_at d2 (n := (m : Int)) (by omega) (by rw [← HN.out]; omega))
    have OO := hid (And.intro oS oE)
    have HB2 := hid (Nat.le_trans HB.out sw2)
    have fin : Hid (∀ (r1 : Option Nat) (w3 : World), DiskAt w3 b r1 (s.cuts (m : Int)) → Next w2 r r1 → Keeps (Foot b r) w2 w3 → PairH w3 B b b' (opS s) t ∧ Below B w w3 ∧ Listed w3 w.heap.size R c2 ps ∧ RefAt w3 b' r' t) := hid (fun r1 w3 k1 k2 k3 => by
      obtain ⟨p1, p2⟩ := Pair.one HB2.out ⟨r, r', ⟨d2, r1, k1, k2, k3⟩, e2, H3.out.1, H3.out.2, hx, ne1⟩
      rw [OO.out.1]
      refine ⟨p1.head, BB2.trans p2, lp.keeps k3 (fun k hk => ?_), e2.keeps k3 (fun e => ?_) (fun k hk e => ?_)⟩
      · rcases hk with e | e
        · have := L1.out.1; omega
        · exact L1.out.2 k e
      · rcases e with e | e
        · exact H3.out.2.1 e.symm
        · exact H3.out.2.2.2.1 e
      · rcases e with e | e
        · subst e; exact H3.out.2.2.1 hk
        · exact H3.out.2.2.2.2 k e hk)
    clear hlt oS oE d2 e2 hx ne1 P2 lp hps r1 b2 m3 hm hm'
    go_wp2_with fail
    refine H.out.mono ?_
    rintro e w3 ⟨rfl, r1, k1, k2, k3⟩
    obtain ⟨f1, f2, f3, f6⟩ := fin.out r1 w3 k1 k2 k3
    have sw3 : w2.heap.size ≤ w3.heap.size := k3.size
    clear k1 k2 k3 H fin
    rcases errno_ok s with he | he
    · rw [he]
      have HE := hid (show opE s = 0 by rw [OO.out.2, he])
      have al := f1.alloc (.cells #[.pointer (some ⟨b, 0, none⟩), .int .i64 (m : Int)] 74)
      have f4 : Below B w (w3.alloc (.cells #[.pointer (some ⟨b, 0, none⟩), .int .i64 (m : Int)] 74)) := f2.alloc (by have := HB2.out; omega) _
      have f5 := f3.below (below_alloc (Below.refl _ w3) (.cells #[.pointer (some ⟨b, 0, none⟩), .int .i64 (m : Int)] 74))
      have AL := hid al
      have R4 := hid (And.intro H2.out (f6.keeps (Keeps.of_below (S := fun _ => False) (below_alloc (Below.refl _ w3) (.cells #[.pointer (some ⟨b, 0, none⟩), .int .i64 (m : Int)] 74))) (fun e => e) (fun _ _ e => e)))
      clear he f1 f2 f3 al f6
      go_wp2
      go_ret3
      exact ⟨f4, ⟨r', R4.out⟩, .inl ⟨HE.out, w3.heap.size, R, c2, ps, rfl, f5, HPS.out, by rw [← HM.out]; exact AL.out, by omega⟩⟩
    · rw [he]
      have HE := hid (show opE s = 9 by rw [OO.out.2, he])
      clear he
      go_wp2
      go_ret3
      exact ⟨f2, ⟨r', H2.out, f6⟩, .inr ⟨HE.out, rfl, f1⟩⟩
  · have t1 : decide ((m : Int) < (n : Int)) = false := by simp; omega
    have t1' : decide (m < n) = false := by simp [hlt]
    have oS : opS s = s := by unfold opS; rw [← HM.out, if_neg (by rw [← HN.out]; exact hlt)]
    have oE : opE s = 0 := by unfold opE; rw [← HM.out, if_neg (by rw [← HN.out]; exact hlt)]
    have al := P2.head.alloc (.cells #[.pointer (some ⟨b, 0, none⟩), .int .i64 (m : Int)] 74)
    have f4 : Below B w (w2.alloc (.cells #[.pointer (some ⟨b, 0, none⟩), .int .i64 (m : Int)] 74)) := BB2.alloc (by have := HB.out; omega) _
    have f5 := lp.below (below_alloc (Below.refl _ w2) (.cells #[.pointer (some ⟨b, 0, none⟩), .int .i64 (m : Int)] 74))
    have AL := hid al
    have OO := hid (And.intro oS oE)
    have R4 := hid (And.intro H2.out (e2.keeps (Keeps.of_below (S := fun _ => False) (below_alloc (Below.refl _ w2) (.cells #[.pointer (some ⟨b, 0, none⟩), .int .i64 (m : Int)] 74))) (fun e => e) (fun _ _ e => e)))
    clear hlt oS oE d2 e2 hx ne1 P2 lp hps r1 b2 m3 hm hm' al
    go_wp2
    go_ret3
    exact ⟨f4, ⟨r', R4.out⟩, .inl ⟨OO.out.2, w2.heap.size, R, c2, ps, rfl, f5, HPS.out, by rw [OO.out.1, ← HM.out]; exact AL.out, sw2⟩⟩
end Go.Proofs.YtponofojildbmaaDoor
