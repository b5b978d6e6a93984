/- Opened again: the disk with a new log, the reference's disk beside. -/
import Derived.Test.YtponofojildbmaaDoorWalP
set_option linter.unusedVariables false
set_option linter.unusedSimpArgs false
namespace Go.Proofs.YtponofojildbmaaDoor
open Go.RowKit PrintLast

theorem ro_same (s : DS) : roE s.ref = opE s ∧ roN s.ref = opN s ∧ roS s.ref = (opS s).ref := by
  have h1 : roN s.ref = opN s := rfl
  have h2 : s.ref.p.length = s.p.length := rfl
  refine ⟨?_, h1, ?_⟩
  · unfold roE opE; rw [h1, h2, ref_errno]
  · unfold roS opS
    rw [h1, h2]
    split
    · exact ref_cuts s _
    · rfl
theorem cuts_len (s : DS) (n : Int) : (s.cuts n).p.length ≤ s.p.length := by
  unfold DS.cuts
  split
  · show ((s.called).p.take _).length ≤ _
    rw [List.length_take]
    exact Nat.min_le_right _ _
  · exact Nat.le_refl _
theorem opS_len (s : DS) : (opS s).p.length ≤ s.p.length := by
  unfold opS
  split
  · exact cuts_len s _
  · exact Nat.le_refl _
theorem opE_crash (s : DS) (n : Int) : opE (s.crash n) = 0 := by
  unfold opE
  split
  · simp [DS.errno, DS.ok, DS.crash]
  · rfl
theorem Play.le {w : World} {B b b' : Nat} {s : DS} {t : RS} {lg n y : Nat} {o : Obj} (h : Play w B b b' s t lg n y o) : s.safe ≤ s.p.length := by
  obtain ⟨r, r', ⟨⟨A, c, _, _, _, h4, _⟩, _⟩, _⟩ := h
  exact h4
theorem size_of {w : World} {lg n : Nat} (h : w.cell? ⟨lg, 1, none⟩ = some (.int .i64 (n : Int))) : Calls Tryd.prog 26 #[.pointer (some ⟨lg, 0, none⟩)] w fun e w' => e = .returned (.int .i64 (n : Int)) ∧ w = w' := by
  go_enter Tryd.func26, Tryd.ntmps26
  go_wp2
  go_ret
  exact ⟨rfl, rfl⟩

theorem reopen1 {w : World} {B b b' : Nat} {s : DS} {t : RS} {lg n : Nat} (hT : Table w) (hB : B ≤ w.heap.size) (h : PlayH w B b b' s t lg n) (hE : opE s = 0) (hbig : s.p.length ≤ 10000000) :
    Calls Tryd.prog 24 #[.pointer (some ⟨b, 0, none⟩)] w fun e w' => ∃ lg2 R c ps r', e = .returned (.tuple #[.pointer (some ⟨lg2, 0, none⟩), .slice R ps.length c, .int .i64 0]) ∧ PlayH w' B b b' (opS s) t lg2 (opN s) ∧ Listed w' w.heap.size R c ps ∧ texts ps = (scanB s.p).1 ∧ RefAt w' b' r' t ∧ (b' < w.heap.size ∧ ∀ k, r' = some k → k < w.heap.size) ∧ Below B w w' := by
  obtain ⟨r, r', h1, h2, ⟨a1, a2, a3, a4, a5⟩, ⟨c1, c2, c3, c4⟩, ⟨d1, d2⟩⟩ := h
  obtain ⟨m1, m2⟩ := h2.lt
  refine (open_at hT h1.1 hbig).mono ?_
  rintro e w' ⟨r1, k1, k2, k3, ⟨_, lg2, R, c, ps, rfl, lp, hps, g1, g2, g3, g4, _⟩ | ⟨q, _⟩⟩
  · have nb : ¬ Foot b r b' := fun e => Or.elim e (fun e => c1 e.symm) (fun e => c3 e)
    have nF : ∀ k, r' = some k → ¬ Foot b r k := fun k hk e => Or.elim e (fun e => c2 (by rw [hk, e])) (fun e => c4 k e hk)
    have q2 := h2.keeps k3 nb nF
    refine ⟨lg2, R, c, ps, r', rfl, ⟨r1, r', ⟨k1, g1, g4, g3⟩, q2, ⟨a1, a2, by omega, fun k hk => ?_, a5⟩, ⟨c1, c2, fun e => ?_, fun k hk e => ?_⟩, ⟨by omega, fun e => by have := m2 _ e; omega⟩⟩, lp, hps, q2, ⟨m1, m2⟩, ⟨k3.os, k3.tape, k3.output, k3.size, fun k hk => k3.block k (by omega) (fun e => ?_)⟩⟩
    · rcases k2 k hk with q | q
      · exact a4 k q
      · omega
    · rcases k2 _ e with q | q
      · exact c3 q
      · omega
    · rcases k2 k hk with q | q
      · exact c4 k q e
      · have := m2 k e; omega
    · rcases e with e | e
      · omega
      · have := a4 k e; omega
  · rw [hE] at q
    exact absurd q (by decide)
theorem reopen2 {w : World} {B b b' : Nat} {s : DS} {t : RS} {lg n : Nat} (hB : B ≤ w.heap.size) (h : PlayH w B b b' s t lg n) {R : Option Addr} {c M : Nat} {ps : List Part} {r0 : Option Nat} (hl : Listed w M R c ps) (hr : RefAt w b' r0 t) (hM : b' < M ∧ ∀ k, r0 = some k → k < M) (hE : roE t = 0) (hbig : t.p.length ≤ 10000000) :
    Calls Tryd.prog 25 #[.pointer (some ⟨b', 0, none⟩)] w fun e w' => ∃ S c' qs, e = .returned (.tuple #[.slice S qs.length c', .int .i64 (roN t : Int), .int .i64 0]) ∧ PlayH w' B b b' s (roS t) lg n ∧ PartsAt w' R ps ∧ PartsAt w' S qs ∧ texts qs = (scanB t.p).1 ∧ Below B w w' := by
  obtain ⟨r, r', h1, h2, ⟨a1, a2, a3, a4, a5⟩, ⟨c1, c2, c3, c4⟩, ⟨d1, d2⟩⟩ := h
  obtain rfl := h2.uniq hr
  obtain ⟨l1, l2, l3⟩ := h1.lt
  refine (ropen_at h2 hbig).mono ?_
  rintro e w' ⟨r1, k1, k2, k3, ⟨_, S, c', qs, rfl, lq, hqs⟩ | ⟨q, _⟩⟩
  · have nb : ¬ Foot b' r' b := fun e => Or.elim e (fun e => c1 e) (fun e => c2 e)
    have nr : ∀ k, r = some k → ¬ Foot b' r' k := fun k hk e => Or.elim e (fun e => c3 (by rw [hk, e])) (fun e => c4 k hk e)
    have nl : ¬ Foot b' r' lg := fun e => Or.elim e (fun e => d1 e) (fun e => d2 e)
    refine ⟨S, c', qs, rfl, ⟨r, r1, h1.keeps k3 nb nr nl, k1, ⟨a1, a2, a3, a4, fun k hk => ?_⟩, ⟨c1, fun e => ?_, c3, fun k hk e => ?_⟩, ⟨d1, fun e => ?_⟩⟩, (hl.keeps k3 (fun k hk => Or.elim hk (fun e => by rw [e]; exact hM.1) (fun e => hM.2 k e))).parts, lq.parts, hqs, ⟨k3.os, k3.tape, k3.output, k3.size, fun k hk => k3.block k (by omega) (fun e => ?_)⟩⟩
    · rcases k2 k hk with q | q
      · exact a5 k q
      · omega
    · rcases k2 _ e with q | q
      · exact c2 q
      · omega
    · rcases k2 k e with q | q
      · exact c4 k hk q
      · have := l3 k hk; omega
    · rcases k2 _ e with q | q
      · exact d2 q
      · omega
    · rcases e with e | e
      · omega
      · have := a5 k e; omega
  · rw [hE] at q
    exact absurd q (by decide)
end Go.Proofs.YtponofojildbmaaDoor
