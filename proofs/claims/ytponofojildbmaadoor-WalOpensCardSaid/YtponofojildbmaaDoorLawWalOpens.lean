/- WalOpens: of any bytes on a disk; if it fails. -/
import Derived.Test.YtponofojildbmaaDoorWalQ
import Derived.Test.YtponofojildbmaaDoorLawWalScans
import Derived.Test.YtponofojildbmaaDoorLawWalNil
import Derived.Test.YtponofojildbmaaDoorOpen
set_option linter.unusedVariables false
set_option linter.unusedSimpArgs false
namespace Go.Proofs.YtponofojildbmaaDoor
open Go.RowKit Go.ChangeShapes Go.WideShapes Go.Deep PrintLast

theorem PairH.tab {w : World} {B b b' : Nat} {s : DS} {t : RS} (h : PairH w B b b' s t) (hT : Table w) (hg : 0 < B) : ∃ o, Pair w B b b' s t 0 o := by
  obtain ⟨_, _, hx⟩ := hT
  obtain ⟨r, r', h1, h2, h3, h4⟩ := h
  exact ⟨_, r, r', h1, h2, h3, h4, hx, by omega, by omega, fun e => by have := h3.2.2.1 _ e; omega, fun e => by have := h3.2.2.2 _ e; omega⟩
theorem size_log {w : World} {lg n : Nat} (h : w.cell? ⟨lg, 1, none⟩ = some (.int .i64 (n : Int))) : Calls Tryd.prog 26 #[.pointer (some ⟨lg, 0, none⟩)] w fun e w' => e = .returned (.int .i64 (n : Int)) ∧ w = w' := by
  go_enter Tryd.func26, Tryd.ntmps26
  go_wp2
  go_ret
  exact ⟨rfl, rfl⟩
theorem ro_all (s : DS) : roE s.ref = opE s ∧ roN s.ref = opN s ∧ roS s.ref = (opS s).ref := by
  have h1 : roN s.ref = opN s := rfl
  have h2 : s.ref.p.length = s.p.length := rfl
  refine ⟨?_, h1, ?_⟩
  · unfold roE opE; rw [h1, h2, ref_errno]
  · unfold roS opS
    rw [h1, h2]
    split
    · exact ref_cuts s _
    · rfl
theorem cuts_le (s : DS) (n : Int) : (s.cuts n).p.length ≤ s.p.length := by
  unfold DS.cuts
  split
  · show ((s.called).p.take _).length ≤ _
    rw [List.length_take]
    exact Nat.min_le_right _ _
  · exact Nat.le_refl _
theorem opS_le (s : DS) : (opS s).p.length ≤ s.p.length := by
  unfold opS
  split
  · exact cuts_le s _
  · exact Nat.le_refl _
theorem foot_apart {b b' : Nat} {r r' : Option Nat} (h : b ≠ b' ∧ r' ≠ some b ∧ r ≠ some b' ∧ ∀ k, r = some k → r' ≠ some k) : ¬ Foot b' r' b ∧ ∀ k, r = some k → ¬ Foot b' r' k :=
  ⟨fun e => Or.elim e (fun e => h.1 e) (fun e => h.2.1 e), fun k hk e => Or.elim e (fun e => h.2.2.1 (by rw [← e]; exact hk)) (fun e => h.2.2.2 k hk e)⟩

set_option maxRecDepth 100000 in
set_option maxHeartbeats 12800000 in
theorem opens_walk {w : World} (hT : Table w) {A B : Option Addr} {c d : Nat} {p : List UInt8} {zs : List Part} {fl : Int} (hp : BSA w A c p) (hz : zs.length ≤ d ∧ d ≤ maxLen ∧ PartsAt w B zs) (hf : (Lit.int .u8 fl).wf = true) :
    Calls Tryd.prog 6 #[.slice A p.length c, .slice B zs.length d, .int .u8 fl] w fun e w' => e = .returned (.bool true) ∧ Below w.heap.size w w' := by
  obtain ⟨z1, z2, hZ⟩ := hz
  have hf' := bounds_u8 hf
  obtain ⟨fl, rfl⟩ : ∃ N : Nat, fl = (N : Int) := ⟨fl.toNat, by omega⟩
  obtain ⟨f4, hf4⟩ : ∃ k, k = fl % 4 := ⟨_, rfl⟩
  have hf44 : f4 < 4 := by omega
  have tm : (fl : Int).tmod 4 = (f4 : Int) := by rw [Int.tmod_eq_emod_of_nonneg (by omega)]; omega
  have tm' : (fl : Int) % 4 = (f4 : Int) := by omega
  clear hf hf' hf4
  by_cases h0 : 60 < p.length
  · have t0 : decide ((60 : Int) < (p.length : Int)) = true := by simp; omega
    have H := hid (both_any hT)
    go_enter Tryd.func6, Tryd.ntmps6
    go_wp2_with fail
    refine H.out.mono ?_
    rintro e w1 ⟨rfl, b1⟩
    have H := hid (both_any (hT.below b1))
    go_wp2_with fail
    refine H.out.mono ?_
    rintro e w2 ⟨rfl, b2⟩
    go_wp2
    go_ret
    exact ⟨rfl, below_then b1 b2⟩
  · have t0 : decide ((60 : Int) < (p.length : Int)) = false := by simp; omega
    by_cases h1 : smallB (texts zs)
    · have hab := all_bound _ h1
      have h20 : zs.length ≤ 20 := by have := h1.2; rwa [texts_length] at this
      have ht : decide (smallB (texts zs)) = true := by simp [h1]
      obtain ⟨L, hL⟩ : ∃ L, Hid (L = allB (texts zs) ++ p) := ⟨_, hid rfl⟩
      have hlb : L.length ≤ 2000 := by rw [hL.out, List.length_append]; omega
      have hT' := hid hT
      have H60 := hid (fun x hx => show List.length x ≤ 1000000 by have := h1.1 x hx; omega)
      have HG := hid (show 0 < w.heap.size by obtain ⟨_, _, hx⟩ := hT; exact lt_of_block hx)
      have H := hid (both_any hT)
      clear hT h1
      go_enter Tryd.func6, Tryd.ntmps6
      go_wp2_with fail
      refine H.out.mono ?_
      rintro e w1 ⟨rfl, B1⟩
      replace hp := hp.below B1
      replace hZ := hZ.below B1
      have H0 := small_any hZ ⟨z1, z2⟩
      rw [ht] at H0
      have H := hid H0
      clear H0 ht
      go_wp2_with fail
      refine H.out.mono ?_
      rintro e w2 ⟨rfl, rfl⟩
      have H := hid (all_any (c := d) hZ H60.out (by omega) (by omega))
      go_wp2_with fail
      refine H.out.mono ?_
      rintro e w2 ⟨A2, c2, rfl, r2, b2⟩
      have B2 := below_then B1 b2
      replace hp := hp.below b2
      have H := hid (join_gave rfl rfl hL.out.symm r2.bsa hp (by omega))
      clear B1 b2 hZ
      go_wp2_with fail
      refine H.out.mono ?_
      rintro e w3 ⟨A3, c3, rfl, r3, b3⟩
      have B3 := below_then B2 b3
      have q3 := r3.bsa
      have H := hid (new_any q3 (by omega))
      clear B2 b3 r2 hp r3
      go_wp2_with fail
      refine H.out.mono ?_
      rintro e w4 ⟨b, r, rfl, d4, n1, n2, b4⟩
      have H := hid (rnew_any (q3.below b4) (by omega))
      go_wp2_with fail
      refine H.out.mono ?_
      rintro e w5 ⟨b', r', rfl, d5, m1, m2, b5⟩
      have B5 := below_then (below_then B3 b4) b5
      obtain ⟨s0, hs0⟩ : ∃ s : DS, s = ⟨L, L.length, 0, false⟩ := ⟨_, rfl⟩
      have P0 : PairH w5 w.heap.size b b' s0 s0.ref := by
        have l2 := d4.lt
        have s1 := B3.size
        have s2 := b4.size
        rw [hs0]
        refine ⟨r, r', d4.keeps (Keeps.of_below (S := fun _ => False) b5) (fun e => e) (fun _ _ e => e), d5, ⟨by omega, by omega, fun k hk => by have := n2 k hk; omega, fun k hk => by have := m2 k hk; omega⟩, by omega, fun e => by have := m2 _ e; omega, fun e => by have := l2.2 _ e; omega, fun k e e' => by have := l2.2 _ e; have := m2 _ e'; omega⟩
      have hsb : Hid (s0.p.length ≤ 2000) := hid (by rw [hs0]; exact hlb)
      obtain ⟨_, P1⟩ := P0.tab (hT'.out.below B5) HG.out
      have nn : (f4 : Int) - 1 ≤ 9223372036854775807 := by omega
      have H := hid (pd_fail B5.size P1 (n := (f4 : Int) - 1) nn)
      clear d4 n1 n2 b4 d5 m1 m2 b5 B3 q3 P0 P1 hs0 hlb
      go_wp2_with fail
      refine H.out.mono ?_
      rintro e w6 ⟨rfl, P6, b6⟩
      have B6 := B5.trans b6
      have H := hid (pr_fail B6.size P6 (n := (f4 : Int) - 1) nn)
      clear P6 b6 B5
      go_wp2_with fail
      refine H.out.mono ?_
      rintro e w7 ⟨rfl, P7, b7⟩
      have B7 := B6.trans b7
      rw [ref_fail] at P7
      obtain ⟨s, hs⟩ : ∃ s, s = s0.fail ((f4 : Int) - 1) := ⟨_, rfl⟩
      have HSB : Hid (s.p.length ≤ 2000) := hid (by rw [hs]; exact hsb.out)
      rw [← hs] at P7
      have H := hid (open_pd (hT'.out.below B7) HG.out B7.size P7.head (by have := HSB.out; omega))
      clear P7 b7 B6 hs hsb nn
      go_wp2_with fail
      refine H.out.mono ?_
      rintro e w8 ⟨b8, ⟨r0, e7, e8'⟩, ⟨hE, lg, R, cR, ps, rfl, lp, hps, P8, hlg⟩ | ⟨hE, rfl, P8⟩⟩
      · have B8 := B7.trans b8
        obtain ⟨r, r', d8, e8, hb8, ha8, hx8, hn8⟩ := P8
        have sp : (opS s).p.length ≤ 2000 := Nat.le_trans (opS_le s) HSB.out
        have H := hid (ropen_at e8 (by show s.p.length ≤ 10000000; have := HSB.out; omega))
        have EE := hid (And.intro hE (ro_all s))
        have HPS := hid hps
        clear hE B7 b8 hps
        go_wp2_with fail
        refine H.out.mono ?_
        rintro e w9 ⟨r1, e9, n9, k9, ⟨hR, S, cS, qs, rfl, lq, hqs⟩ | ⟨hR, rfl⟩⟩
        · have d9 := d8.keeps k9 (foot_apart ha8).1 (foot_apart ha8).2
          have B9 : Below w.heap.size w w9 := B8.trans ⟨k9.os, k9.tape, k9.output, k9.size, fun k hk => k9.block k (Nat.lt_of_lt_of_le hk B8.size) (fun e => Or.elim e (fun e => by have := hb8.2.1; omega) (fun e => by have := hb8.2.2.2 k e; omega))⟩
          obtain ⟨Am, cm, g1, g2, g3, g4, g5, g6⟩ := e9
          rw [EE.out.2.2.2] at g1 g2 g3 g4
          obtain ⟨T, hT9⟩ : ∃ T, T = (opS s).p := ⟨_, rfl⟩
          obtain ⟨tn, htn⟩ : ∃ n, n = T.length := ⟨_, rfl⟩
          have cm0 := cell_at g1 (i := 0) (v := .slice Am (opS s).ref.p.length cm) rfl
          have rm : Row w9 0 Am cm (opS s).p := g2
          have e10 : (opS s).ref.p.length = tn := by rw [htn, hT9]; rfl
          rw [e10] at cm0
          have qm := rm.bsa
          rw [← hT9] at qm
          have F3 := hid (fun (w' : World) (h : DiskAt w' b r (opS s)) => show Calls Tryd.prog 27 #[.pointer (some ⟨b, 0, none⟩)] w' fun e w'' => ∃ A' c', e = .returned (.slice A' tn c') ∧ BSA w'' A' c' T ∧ Below w'.heap.size w' w'' by
            refine (read_any h (by omega)).mono ?_
            rintro e w'' ⟨A', c', rfl, m1, m2, m3⟩
            exact ⟨A', c', by rw [htn, hT9], by rw [hT9]; exact (own_bsa m1).2.2, m3⟩)
          have F4 := hid (fun (w' : World) (A' : Option Addr) (c' : Nat) (h1 : BSA w' A' c' T) (h2 : BSA w' Am cm T) => show Calls Tryd.prog 15 #[.slice A' tn c', .slice Am tn cm] w' fun e w'' => e = .returned (.bool true) ∧ Below w'.heap.size w' w'' by
            have H0 := bytes_any h1 h2
            rw [show decide (T = T) = true by simp, ← htn] at H0
            exact H0)
          have hx9 := k9.heap hx8 (fun e => Or.elim e (fun e => hn8.2.1 e) (fun e => hn8.2.2.2 e))
          obtain ⟨opn, hopn⟩ : ∃ n, n = opN s := ⟨_, rfl⟩
          rw [← hopn] at hx9
          have cl := cell_at hx9 (i := 1) (v := .int .i64 (opn : Int)) rfl
          have lp9 := (lp.keeps k9 (fun k hk => Or.elim hk (fun e => by rw [e]; exact e7.lt.1) (fun e => e7.lt.2 k ((e8'.uniq e8).trans e)))).parts
          have RO := hid (ro_all s).2.1
          have hqs' := hid hqs
          have lpn : ps.length = (scanB s.p).1.length := by rw [← HPS.out, texts_length]
          have lqn : qs.length = (scanB s.p).1.length := by rw [← texts_length, hqs]; rfl
          have few := scan_few s.p
          obtain ⟨m, hm⟩ : ∃ m, m = (scanB s.p).1.length := ⟨_, rfl⟩
          rw [← hm] at lpn lqn few
          have lq9 := lq.parts
          have F1 := hid (fun (w' : World) (h1 : PartsAt w' R ps) (h2 : PartsAt w' S qs) => show Calls Tryd.prog 17 #[.slice R m cR, .slice S m cS] w' fun e w'' => e = .returned (.bool true) ∧ Below w'.heap.size w' w'' by
            have H0 := same_any (c := cR) (d := cS) h1 h2 (by have := HSB.out; omega) (by have := HSB.out; omega)
            have e0 : decide (texts ps = texts qs) = true := by rw [decide_eq_true_iff, HPS.out, hqs'.out]; rfl
            rw [e0, lpn, lqn] at H0
            exact H0)
          have F2 := hid (fun (w' : World) (h : w'.cell? ⟨lg, 1, none⟩ = some (.int .i64 (opn : Int))) => size_log h)
          rw [RO.out, ← hopn]
          rw [lpn, lqn]
          have SP := hid sp
          clear g1 g2 g3 g4 g5 g6 hR e8 rm htn hT9 sp e10 hqs lq lp hx8 hx9 lpn lqn hm hopn few
          go_wp2
          refine start_ (n := 31) (S := fun w' => w'.cell? ⟨b', 0, none⟩ = some (.slice Am tn cm) ∧ DiskAt w' b r (opS s) ∧ BSA w' Am cm T ∧ Below w.heap.size w w' ∧ PartsAt w' R ps ∧ PartsAt w' S qs ∧ w'.cell? ⟨lg, 1, none⟩ = some (.int .i64 (opn : Int))) (ds := []) #[false, false, false, false, false, false, false, false, false, false, false, false, false, false, false, false, false, false, false, false, false, false, false, false, false, false, false, false, false, false, false] (by kernel_rfl) rfl rfl ⟨cm0, d9, qm, B9.drew, lp9, lq9, cl⟩ (fun hHeld => ?_)
          refine pure_ (i := 0) (N := some 61) (v := ?_) (a' := ?_) #[true, false, false, false, false, false, false, false, false, false, false, false, false, false, false, false, false, false, false, false, false, false, false, false, false, false, false, false, false, false, false] rfl rfl (by kernel_rfl) (fun _ _ _ h => h) (Or.inl ⟨by rfl, ?_⟩) ?_ ?_
          rotate_left
          · intro w'
            go_simp
            with_reducible rfl
          rotate_left
          · simp only [Act.put, List.setIfInBounds_toArray, List.set_cons_zero, List.set_cons_succ, i64_w, i32_w]
            rfl
          refine pure_ (i := 1) (N := some 62) (v := ?_) (a' := ?_) #[true, true, false, false, false, false, false, false, false, false, false, false, false, false, false, false, false, false, false, false, false, false, false, false, false, false, false, false, false, false, false] rfl rfl (by kernel_rfl) (fun _ _ _ h => h) (Or.inl ⟨by rfl, ?_⟩) ?_ ?_
          rotate_left
          · intro w'
            go_simp
            with_reducible rfl
          rotate_left
          · simp only [Act.put, List.setIfInBounds_toArray, List.set_cons_zero, List.set_cons_succ, i64_w, i32_w]
            rfl
          refine pure_ (i := 2) (N := some 63) (v := ?_) (a' := ?_) #[true, true, true, false, false, false, false, false, false, false, false, false, false, false, false, false, false, false, false, false, false, false, false, false, false, false, false, false, false, false, false] rfl rfl (by kernel_rfl) (fun _ _ _ h => h) (Or.inl ⟨by rfl, ?_⟩) ?_ ?_
          rotate_left
          · intro w'
            go_simp
            with_reducible rfl
          rotate_left
          · simp only [Act.put, List.setIfInBounds_toArray, List.set_cons_zero, List.set_cons_succ, i64_w, i32_w]
            rfl
          refine pure_ (i := 3) (N := some 64) (v := ?_) (a' := ?_) #[true, true, true, true, false, false, false, false, false, false, false, false, false, false, false, false, false, false, false, false, false, false, false, false, false, false, false, false, false, false, false] rfl rfl (by kernel_rfl) (fun _ _ _ h => h) (Or.inl ⟨by rfl, ?_⟩) ?_ ?_
          rotate_left
          · intro w'
            go_simp
            with_reducible rfl
          rotate_left
          · simp only [Act.put, List.setIfInBounds_toArray, List.set_cons_zero, List.set_cons_succ, i64_w, i32_w]
            rfl
          refine pure_ (i := 4) (N := some 65) (v := ?_) (a' := ?_) #[true, true, true, true, true, false, false, false, false, false, false, false, false, false, false, false, false, false, false, false, false, false, false, false, false, false, false, false, false, false, false] rfl rfl (by kernel_rfl) (fun _ _ _ h => h) (Or.inl ⟨by rfl, ?_⟩) ?_ ?_
          rotate_left
          · intro w'
            go_simp
            with_reducible rfl
          rotate_left
          · simp only [Act.put, List.setIfInBounds_toArray, List.set_cons_zero, List.set_cons_succ, i64_w, i32_w]
            rfl
          refine pure_ (i := 5) (N := some 66) (v := ?_) (a' := ?_) #[true, true, true, true, true, true, false, false, false, false, false, false, false, false, false, false, false, false, false, false, false, false, false, false, false, false, false, false, false, false, false] rfl rfl (by kernel_rfl) (fun _ _ _ h => h) (Or.inl ⟨by rfl, ?_⟩) ?_ ?_
          rotate_left
          · intro w'
            go_simp
            with_reducible rfl
          rotate_left
          · simp only [Act.put, List.setIfInBounds_toArray, List.set_cons_zero, List.set_cons_succ, i64_w, i32_w]
            rfl
          refine one_ (i := 6) (N := some 67) #[true, true, true, true, true, true, true, false, false, false, false, false, false, false, false, false, false, false, false, false, false, false, false, false, false, false, false, false, false, false, false] rfl rfl (by kernel_rfl) (by decide) (fun K hK => ?_)
          refine goes_ Tryd.func17 (by kernel_rfl) rfl #[.slice R m cR, .slice S m cS] (by rfl) rfl rfl (by simp only [List.map_toArray, List.map_cons, List.map_nil]; rfl) ?_
          with_reducible refine ((F1.out _ hHeld.2.2.2.2.1 hHeld.2.2.2.2.2.1)).mono ?_
          rintro e' y1 ⟨rfl, v1⟩
          refine ⟨_, rfl, ?_⟩
          refine hK.out _ _ ⟨(below_cell v1 hHeld.1), (hHeld.2.1.keeps (Keeps.of_below (S := fun _ => False) v1) (fun e => e) (fun _ _ e => e)), (hHeld.2.2.1.below v1), (hHeld.2.2.2.1.trans (v1.mono hHeld.2.2.2.1.size)), (hHeld.2.2.2.2.1.below v1), (hHeld.2.2.2.2.2.1.below v1), (below_cell v1 hHeld.2.2.2.2.2.2)⟩ (fun hHeld => ?_)
          clear hK K
          refine norm_ (a' := ?_) ?_ ?_
          rotate_left
          · show Act.put _ (some 67) _ = _
            simp only [Act.put, List.setIfInBounds_toArray, List.set_cons_zero, List.set_cons_succ, i64_w, i32_w]
            rfl
          refine pure_ (i := 7) (N := some 68) (v := ?_) (a' := ?_) #[true, true, true, true, true, true, true, true, false, false, false, false, false, false, false, false, false, false, false, false, false, false, false, false, false, false, false, false, false, false, false] rfl rfl (by kernel_rfl) (fun _ _ _ h => h) (Or.inl ⟨by rfl, ?_⟩) ?_ ?_
          rotate_left
          · intro w'
            go_simp
            with_reducible rfl
          rotate_left
          · simp only [Act.put, List.setIfInBounds_toArray, List.set_cons_zero, List.set_cons_succ, i64_w, i32_w]
            rfl
          refine pure_ (i := 8) (N := some 69) (v := ?_) (a' := ?_) #[true, true, true, true, true, true, true, true, true, false, false, false, false, false, false, false, false, false, false, false, false, false, false, false, false, false, false, false, false, false, false] rfl rfl (by kernel_rfl) (fun _ _ _ h => h) (Or.inl ⟨by rfl, ?_⟩) ?_ ?_
          rotate_left
          · intro w'
            go_simp
            with_reducible rfl
          rotate_left
          · simp only [Act.put, List.setIfInBounds_toArray, List.set_cons_zero, List.set_cons_succ, i64_w, i32_w]
            rfl
          refine pure_ (i := 9) (N := some 70) (v := ?_) (a' := ?_) #[true, true, true, true, true, true, true, true, true, true, false, false, false, false, false, false, false, false, false, false, false, false, false, false, false, false, false, false, false, false, false] rfl rfl (by kernel_rfl) (fun _ _ _ h => h) (Or.inl ⟨by rfl, ?_⟩) ?_ ?_
          rotate_left
          · intro w'
            go_simp
            with_reducible rfl
          rotate_left
          · simp only [Act.put, List.setIfInBounds_toArray, List.set_cons_zero, List.set_cons_succ, i64_w, i32_w]
            rfl
          refine pure_ (i := 10) (N := some 71) (v := ?_) (a' := ?_) #[true, true, true, true, true, true, true, true, true, true, true, false, false, false, false, false, false, false, false, false, false, false, false, false, false, false, false, false, false, false, false] rfl rfl (by kernel_rfl) (fun _ _ _ h => h) (Or.inl ⟨by rfl, ?_⟩) ?_ ?_
          rotate_left
          · intro w'
            go_simp
            with_reducible rfl
          rotate_left
          · simp only [Act.put, List.setIfInBounds_toArray, List.set_cons_zero, List.set_cons_succ, i64_w, i32_w]
            rfl
          refine pure_ (i := 11) (N := some 72) (v := ?_) (a' := ?_) #[true, true, true, true, true, true, true, true, true, true, true, true, false, false, false, false, false, false, false, false, false, false, false, false, false, false, false, false, false, false, false] rfl rfl (by kernel_rfl) (fun _ _ _ h => h) (Or.inl ⟨by rfl, ?_⟩) ?_ ?_
          rotate_left
          · intro w'
            go_simp
            with_reducible rfl
          rotate_left
          · simp only [Act.put, List.setIfInBounds_toArray, List.set_cons_zero, List.set_cons_succ, i64_w, i32_w]
            rfl
          refine pure_ (i := 12) (N := some 73) (v := ?_) (a' := ?_) #[true, true, true, true, true, true, true, true, true, true, true, true, true, false, false, false, false, false, false, false, false, false, false, false, false, false, false, false, false, false, false] rfl rfl (by kernel_rfl) (fun _ _ _ h => h) (Or.inl ⟨by rfl, ?_⟩) ?_ ?_
          rotate_left
          · intro w'
            go_simp
            with_reducible rfl
          rotate_left
          · simp only [Act.put, List.setIfInBounds_toArray, List.set_cons_zero, List.set_cons_succ, i64_w, i32_w]
            rfl
          refine pure_ (i := 13) (N := some 74) (v := ?_) (a' := ?_) #[true, true, true, true, true, true, true, true, true, true, true, true, true, true, false, false, false, false, false, false, false, false, false, false, false, false, false, false, false, false, false] rfl rfl (by kernel_rfl) (fun _ _ _ h => h) (Or.inl ⟨by rfl, ?_⟩) ?_ ?_
          rotate_left
          · intro w'
            go_simp
            with_reducible rfl
          rotate_left
          · simp only [Act.put, List.setIfInBounds_toArray, List.set_cons_zero, List.set_cons_succ, i64_w, i32_w]
            rfl
          refine pure_ (i := 14) (N := some 75) (v := ?_) (a' := ?_) #[true, true, true, true, true, true, true, true, true, true, true, true, true, true, true, false, false, false, false, false, false, false, false, false, false, false, false, false, false, false, false] rfl rfl (by kernel_rfl) (fun _ _ _ h => h) (Or.inl ⟨by rfl, ?_⟩) ?_ ?_
          rotate_left
          · intro w'
            go_simp
            with_reducible rfl
          rotate_left
          · simp only [Act.put, List.setIfInBounds_toArray, List.set_cons_zero, List.set_cons_succ, i64_w, i32_w]
            rfl
          refine pure_ (i := 15) (N := some 76) (v := ?_) (a' := ?_) #[true, true, true, true, true, true, true, true, true, true, true, true, true, true, true, true, false, false, false, false, false, false, false, false, false, false, false, false, false, false, false] rfl rfl (by kernel_rfl) (fun _ _ _ h => h) (Or.inl ⟨by rfl, ?_⟩) ?_ ?_
          rotate_left
          · intro w'
            go_simp
            with_reducible rfl
          rotate_left
          · simp only [Act.put, List.setIfInBounds_toArray, List.set_cons_zero, List.set_cons_succ, i64_w, i32_w]
            rfl
          refine pure_ (i := 16) (N := some 77) (v := ?_) (a' := ?_) #[true, true, true, true, true, true, true, true, true, true, true, true, true, true, true, true, true, false, false, false, false, false, false, false, false, false, false, false, false, false, false] rfl rfl (by kernel_rfl) (fun _ _ _ h => h) (Or.inl ⟨by rfl, ?_⟩) ?_ ?_
          rotate_left
          · intro w'
            go_simp
            with_reducible rfl
          rotate_left
          · simp only [Act.put, List.setIfInBounds_toArray, List.set_cons_zero, List.set_cons_succ, i64_w, i32_w]
            rfl
          refine pure_ (i := 18) (N := some 79) (v := ?_) (a' := ?_) #[true, true, true, true, true, true, true, true, true, true, true, true, true, true, true, true, true, false, true, false, false, false, false, false, false, false, false, false, false, false, false] rfl rfl (by kernel_rfl) (fun _ _ _ h => h) (Or.inl ⟨by rfl, ?_⟩) ?_ ?_
          rotate_left
          · intro w'
            go_simp
            with_reducible rfl
          rotate_left
          · simp only [Act.put, List.setIfInBounds_toArray, List.set_cons_zero, List.set_cons_succ, i64_w, i32_w]
            rfl
          refine one_ (i := 17) (N := some 78) #[true, true, true, true, true, true, true, true, true, true, true, true, true, true, true, true, true, true, true, false, false, false, false, false, false, false, false, false, false, false, false] rfl rfl (by kernel_rfl) (by decide) (fun K hK => ?_)
          refine goes_ Tryd.func26 (by kernel_rfl) rfl #[.pointer (some ⟨lg, 0, none⟩)] (by rfl) rfl rfl (by simp only [List.map_toArray, List.map_cons, List.map_nil]; rfl) ?_
          with_reducible refine ((F2.out _ hHeld.2.2.2.2.2.2)).mono ?_
          rintro e' y2 ⟨rfl, rfl⟩
          refine ⟨_, rfl, ?_⟩
          refine hK.out _ _ ⟨hHeld.1, hHeld.2.1, hHeld.2.2.1, hHeld.2.2.2.1, hHeld.2.2.2.2.1, hHeld.2.2.2.2.2.1, hHeld.2.2.2.2.2.2⟩ (fun hHeld => ?_)
          clear hK K
          refine norm_ (a' := ?_) ?_ ?_
          rotate_left
          · show Act.put _ (some 78) _ = _
            simp only [Act.put, List.setIfInBounds_toArray, List.set_cons_zero, List.set_cons_succ, i64_w, i32_w]
            rfl
          refine pure_ (i := 19) (N := some 80) (v := ?_) (a' := ?_) #[true, true, true, true, true, true, true, true, true, true, true, true, true, true, true, true, true, true, true, true, false, false, false, false, false, false, false, false, false, false, false] rfl rfl (by kernel_rfl) (fun _ _ _ h => h) (Or.inl ⟨by rfl, ?_⟩) ?_ ?_
          rotate_left
          · intro w'
            go_simp
            with_reducible rfl
          rotate_left
          · simp only [Act.put, List.setIfInBounds_toArray, List.set_cons_zero, List.set_cons_succ, i64_w, i32_w]
            rfl
          refine pure_ (i := 20) (N := some 81) (v := ?_) (a' := ?_) #[true, true, true, true, true, true, true, true, true, true, true, true, true, true, true, true, true, true, true, true, true, false, false, false, false, false, false, false, false, false, false] rfl rfl (by kernel_rfl) (fun _ _ _ h => h) (Or.inl ⟨by rfl, ?_⟩) ?_ ?_
          rotate_left
          · intro w'
            go_simp
            with_reducible rfl
          rotate_left
          · simp only [Act.put, List.setIfInBounds_toArray, List.set_cons_zero, List.set_cons_succ, i64_w, i32_w]
            rfl
          refine pure_ (i := 21) (N := some 82) (v := ?_) (a' := ?_) #[true, true, true, true, true, true, true, true, true, true, true, true, true, true, true, true, true, true, true, true, true, true, false, false, false, false, false, false, false, false, false] rfl rfl (by kernel_rfl) (fun _ _ _ h => h) (Or.inl ⟨by rfl, ?_⟩) ?_ ?_
          rotate_left
          · intro w'
            go_simp
            with_reducible rfl
          rotate_left
          · simp only [Act.put, List.setIfInBounds_toArray, List.set_cons_zero, List.set_cons_succ, i64_w, i32_w]
            rfl
          refine pure_ (i := 22) (N := some 83) (v := ?_) (a' := ?_) #[true, true, true, true, true, true, true, true, true, true, true, true, true, true, true, true, true, true, true, true, true, true, true, false, false, false, false, false, false, false, false] rfl rfl (by kernel_rfl) (fun _ _ _ h => h) (Or.inl ⟨by rfl, ?_⟩) ?_ ?_
          rotate_left
          · intro w'
            go_simp
            with_reducible rfl
          rotate_left
          · simp only [Act.put, List.setIfInBounds_toArray, List.set_cons_zero, List.set_cons_succ, i64_w, i32_w]
            rfl
          refine pure_ (i := 24) (N := some 85) (v := ?_) (a' := ?_) #[true, true, true, true, true, true, true, true, true, true, true, true, true, true, true, true, true, true, true, true, true, true, true, false, true, false, false, false, false, false, false] rfl rfl (by kernel_rfl) (fun _ _ _ h => h) (Or.inl ⟨by rfl, ?_⟩) ?_ ?_
          rotate_left
          · intro w'
            go_simp
            with_reducible rfl
          rotate_left
          · simp only [Act.put, List.setIfInBounds_toArray, List.set_cons_zero, List.set_cons_succ, i64_w, i32_w]
            rfl
          refine pure_ (i := 25) (N := some 86) (v := ?_) (a' := ?_) #[true, true, true, true, true, true, true, true, true, true, true, true, true, true, true, true, true, true, true, true, true, true, true, false, true, true, false, false, false, false, false] rfl rfl (by kernel_rfl) (fun _ _ _ h => h) (Or.inl ⟨by rfl, ?_⟩) ?_ ?_
          rotate_left
          · intro w'
            go_simp
            with_reducible rfl
          rotate_left
          · simp only [Act.put, List.setIfInBounds_toArray, List.set_cons_zero, List.set_cons_succ, i64_w, i32_w]
            rfl
          refine pure_ (i := 26) (N := some 87) (v := ?_) (a' := ?_) #[true, true, true, true, true, true, true, true, true, true, true, true, true, true, true, true, true, true, true, true, true, true, true, false, true, true, true, false, false, false, false] rfl rfl (by kernel_rfl) (fun _ _ _ h => h) (Or.inl ⟨by rfl, ?_⟩) ?_ ?_
          rotate_left
          · intro w'
            go_simp
            with_reducible rfl
          rotate_left
          · simp only [Act.put, List.setIfInBounds_toArray, List.set_cons_zero, List.set_cons_succ, i64_w, i32_w]
            rfl
          refine take_ (i := 27) (N := some 88) (v := ?_) (a' := ?_) #[true, true, true, true, true, true, true, true, true, true, true, true, true, true, true, true, true, true, true, true, true, true, true, false, true, true, true, true, false, false, false] rfl rfl (by kernel_rfl) (fun _ _ _ h => h) (Or.inl ⟨by rfl, ?_⟩) hHeld ?_ ?_
          rotate_left
          · rintro w' ⟨s0, s1, s2, s3, s4, s5, s6⟩
            go_simp
            with_reducible rfl
          rotate_left
          · simp only [Act.put, List.setIfInBounds_toArray, List.set_cons_zero, List.set_cons_succ, i64_w, i32_w]
            rfl
          refine one_ (i := 23) (N := some 84) #[true, true, true, true, true, true, true, true, true, true, true, true, true, true, true, true, true, true, true, true, true, true, true, true, true, true, true, true, false, false, false] rfl rfl (by kernel_rfl) (by decide) (fun K hK => ?_)
          refine goes_ Tryd.func27 (by kernel_rfl) rfl #[.pointer (some ⟨b, 0, none⟩)] (by rfl) rfl rfl (by simp only [List.map_toArray, List.map_cons, List.map_nil]; rfl) ?_
          with_reducible refine ((F3.out _ hHeld.2.1)).mono ?_
          rintro e' y3 ⟨Ay, cy, rfl, ry, v3⟩
          refine ⟨_, rfl, ?_⟩
          refine hK.out _ _ ⟨(below_cell v3 hHeld.1), (hHeld.2.1.keeps (Keeps.of_below (S := fun _ => False) v3) (fun e => e) (fun _ _ e => e)), (hHeld.2.2.1.below v3), (hHeld.2.2.2.1.trans (v3.mono hHeld.2.2.2.1.size)), (hHeld.2.2.2.2.1.below v3), (hHeld.2.2.2.2.2.1.below v3), (below_cell v3 hHeld.2.2.2.2.2.2)⟩ (fun hHeld => ?_)
          clear hK K
          refine norm_ (a' := ?_) ?_ ?_
          rotate_left
          · show Act.put _ (some 84) _ = _
            simp only [Act.put, List.setIfInBounds_toArray, List.set_cons_zero, List.set_cons_succ, i64_w, i32_w]
            rfl
          refine one_ (i := 28) (N := some 89) #[true, true, true, true, true, true, true, true, true, true, true, true, true, true, true, true, true, true, true, true, true, true, true, true, true, true, true, true, true, false, false] rfl rfl (by kernel_rfl) (by decide) (fun K hK => ?_)
          refine goes_ Tryd.func15 (by kernel_rfl) rfl #[.slice Ay tn cy, .slice Am tn cm] (by rfl) rfl rfl (by simp only [List.map_toArray, List.map_cons, List.map_nil]; rfl) ?_
          with_reducible refine ((F4.out _ _ _ ry hHeld.2.2.1)).mono ?_
          rintro e' y4 ⟨rfl, v4⟩
          refine ⟨_, rfl, ?_⟩
          have B10 := hHeld.2.2.2.1.trans (v4.mono hHeld.2.2.2.1.size)
          refine hK.out _ _ ⟨(below_cell v4 hHeld.1), (hHeld.2.1.keeps (Keeps.of_below (S := fun _ => False) v4) (fun e => e) (fun _ _ e => e)), (hHeld.2.2.1.below v4), (hHeld.2.2.2.1.trans (v4.mono hHeld.2.2.2.1.size)), (hHeld.2.2.2.2.1.below v4), (hHeld.2.2.2.2.2.1.below v4), (below_cell v4 hHeld.2.2.2.2.2.2)⟩ (fun hHeld => ?_)
          clear hK K
          refine norm_ (a' := ?_) ?_ ?_
          rotate_left
          · show Act.put _ (some 89) _ = _
            simp only [Act.put, List.setIfInBounds_toArray, List.set_cons_zero, List.set_cons_succ, i64_w, i32_w]
            rfl
          refine pure_ (i := 29) (N := some 90) (v := ?_) (a' := ?_) #[true, true, true, true, true, true, true, true, true, true, true, true, true, true, true, true, true, true, true, true, true, true, true, true, true, true, true, true, true, true, false] rfl rfl (by kernel_rfl) (fun _ _ _ h => h) (Or.inl ⟨by rfl, ?_⟩) ?_ ?_
          rotate_left
          · intro w'
            go_simp
            with_reducible rfl
          rotate_left
          · simp only [Act.put, List.setIfInBounds_toArray, List.set_cons_zero, List.set_cons_succ, i64_w, i32_w]
            rfl
          refine pure_ (i := 30) (N := some 6) (v := ?_) (a' := ?_) #[true, true, true, true, true, true, true, true, true, true, true, true, true, true, true, true, true, true, true, true, true, true, true, true, true, true, true, true, true, true, true] rfl rfl (by kernel_rfl) (fun _ _ _ h => h) (Or.inl ⟨by rfl, ?_⟩) ?_ ?_
          rotate_left
          · intro w'
            go_simp
            with_reducible rfl
          rotate_left
          · simp only [Act.put, List.setIfInBounds_toArray, List.set_cons_zero, List.set_cons_succ, i64_w, i32_w]
            rfl
          refine done_ (by kernel_rfl) ?_
          clear F1 F2 F3 F4 cm0 d9 qm B9
          go_wp2
          go_ret
          exact ⟨rfl, B10⟩
        · exfalso
          rw [EE.out.2.1, EE.out.1] at hR
          exact absurd hR (by decide)
      · have B8 := B7.trans b8
        obtain ⟨r, r', d8, e8, hb8, ha8⟩ := P8
        have sp : (opS s).p.length ≤ 2000 := Nat.le_trans (opS_le s) HSB.out
        have H := hid (ropen_at e8 (by show s.p.length ≤ 10000000; have := HSB.out; omega))
        have EE := hid (And.intro hE (ro_all s))
        clear hE B7 b8
        go_wp2_with fail
        refine H.out.mono ?_
        rintro e w9 ⟨r1, e9, n9, k9, ⟨hR, S, cS, qs, rfl, lq, hqs⟩ | ⟨hR, rfl⟩⟩
        · exfalso
          rw [EE.out.2.1, EE.out.1] at hR
          exact absurd hR (by decide)
        · have d9 := d8.keeps k9 (foot_apart ha8).1 (foot_apart ha8).2
          have B9 : Below w.heap.size w w9 := B8.trans ⟨k9.os, k9.tape, k9.output, k9.size, fun k hk => k9.block k (Nat.lt_of_lt_of_le hk B8.size) (fun e => Or.elim e (fun e => by have := hb8.2.1; omega) (fun e => by have := hb8.2.2.2 k e; omega))⟩
          obtain ⟨Am, cm, g1, g2, g3, g4, g5, g6⟩ := e9
          rw [EE.out.2.2.2] at g1 g2 g3 g4
          obtain ⟨T, hT9⟩ : ∃ T, T = (opS s).p := ⟨_, rfl⟩
          obtain ⟨tn, htn⟩ : ∃ n, n = T.length := ⟨_, rfl⟩
          have cm0 := cell_at g1 (i := 0) (v := .slice Am (opS s).ref.p.length cm) rfl
          have rm : Row w9 0 Am cm (opS s).p := g2
          have e10 : (opS s).ref.p.length = tn := by rw [htn, hT9]; rfl
          rw [e10] at cm0
          have qm := rm.bsa
          rw [← hT9] at qm
          have F3 := hid (fun (w' : World) (h : DiskAt w' b r (opS s)) => show Calls Tryd.prog 27 #[.pointer (some ⟨b, 0, none⟩)] w' fun e w'' => ∃ A' c', e = .returned (.slice A' tn c') ∧ BSA w'' A' c' T ∧ Below w'.heap.size w' w'' by
            refine (read_any h (by omega)).mono ?_
            rintro e w'' ⟨A', c', rfl, m1, m2, m3⟩
            exact ⟨A', c', by rw [htn, hT9], by rw [hT9]; exact (own_bsa m1).2.2, m3⟩)
          have F4 := hid (fun (w' : World) (A' : Option Addr) (c' : Nat) (h1 : BSA w' A' c' T) (h2 : BSA w' Am cm T) => show Calls Tryd.prog 15 #[.slice A' tn c', .slice Am tn cm] w' fun e w'' => e = .returned (.bool true) ∧ Below w'.heap.size w' w'' by
            have H0 := bytes_any h1 h2
            rw [show decide (T = T) = true by simp, ← htn] at H0
            exact H0)
          have RO := hid (ro_all s).2.1
          have F1 := hid (fun (w' : World) => show Calls Tryd.prog 17 #[.slice none 0 0, .slice none 0 0] w' fun e w'' => e = .returned (.bool true) ∧ Below w'.heap.size w' w'' by
            have H0 := same_any (w := w') (A := none) (B := none) (c := 0) (d := 0) (ps := []) (qs := []) ⟨fun _ => rfl, fun _ e => by cases e⟩ ⟨fun _ => rfl, fun _ e => by cases e⟩ (by simp) (by simp)
            exact H0)
          have F2 := hid (fun (w' : World) => size_nil (w := w'))
          have SP := hid sp
          clear g1 g2 g3 g4 g5 g6 hR e8 rm htn hT9 sp e10
          go_wp2
          refine start_ (n := 31) (S := fun w' => w'.cell? ⟨b', 0, none⟩ = some (.slice Am tn cm) ∧ DiskAt w' b r (opS s) ∧ BSA w' Am cm T ∧ Below w.heap.size w w') (ds := []) #[false, false, false, false, false, false, false, false, false, false, false, false, false, false, false, false, false, false, false, false, false, false, false, false, false, false, false, false, false, false, false] (by kernel_rfl) rfl rfl ⟨cm0, d9, qm, B9.drew⟩ (fun hHeld => ?_)
          refine pure_ (i := 0) (N := some 61) (v := ?_) (a' := ?_) #[true, false, false, false, false, false, false, false, false, false, false, false, false, false, false, false, false, false, false, false, false, false, false, false, false, false, false, false, false, false, false] rfl rfl (by kernel_rfl) (fun _ _ _ h => h) (Or.inl ⟨by rfl, ?_⟩) ?_ ?_
          rotate_left
          · intro w'
            go_simp
            with_reducible rfl
          rotate_left
          · simp only [Act.put, List.setIfInBounds_toArray, List.set_cons_zero, List.set_cons_succ, i64_w, i32_w]
            rfl
          refine pure_ (i := 1) (N := some 62) (v := ?_) (a' := ?_) #[true, true, false, false, false, false, false, false, false, false, false, false, false, false, false, false, false, false, false, false, false, false, false, false, false, false, false, false, false, false, false] rfl rfl (by kernel_rfl) (fun _ _ _ h => h) (Or.inl ⟨by rfl, ?_⟩) ?_ ?_
          rotate_left
          · intro w'
            go_simp
            with_reducible rfl
          rotate_left
          · simp only [Act.put, List.setIfInBounds_toArray, List.set_cons_zero, List.set_cons_succ, i64_w, i32_w]
            rfl
          refine pure_ (i := 2) (N := some 63) (v := ?_) (a' := ?_) #[true, true, true, false, false, false, false, false, false, false, false, false, false, false, false, false, false, false, false, false, false, false, false, false, false, false, false, false, false, false, false] rfl rfl (by kernel_rfl) (fun _ _ _ h => h) (Or.inl ⟨by rfl, ?_⟩) ?_ ?_
          rotate_left
          · intro w'
            go_simp
            with_reducible rfl
          rotate_left
          · simp only [Act.put, List.setIfInBounds_toArray, List.set_cons_zero, List.set_cons_succ, i64_w, i32_w]
            rfl
          refine pure_ (i := 3) (N := some 64) (v := ?_) (a' := ?_) #[true, true, true, true, false, false, false, false, false, false, false, false, false, false, false, false, false, false, false, false, false, false, false, false, false, false, false, false, false, false, false] rfl rfl (by kernel_rfl) (fun _ _ _ h => h) (Or.inl ⟨by rfl, ?_⟩) ?_ ?_
          rotate_left
          · intro w'
            go_simp
            with_reducible rfl
          rotate_left
          · simp only [Act.put, List.setIfInBounds_toArray, List.set_cons_zero, List.set_cons_succ, i64_w, i32_w]
            rfl
          refine pure_ (i := 4) (N := some 65) (v := ?_) (a' := ?_) #[true, true, true, true, true, false, false, false, false, false, false, false, false, false, false, false, false, false, false, false, false, false, false, false, false, false, false, false, false, false, false] rfl rfl (by kernel_rfl) (fun _ _ _ h => h) (Or.inl ⟨by rfl, ?_⟩) ?_ ?_
          rotate_left
          · intro w'
            go_simp
            with_reducible rfl
          rotate_left
          · simp only [Act.put, List.setIfInBounds_toArray, List.set_cons_zero, List.set_cons_succ, i64_w, i32_w]
            rfl
          refine pure_ (i := 5) (N := some 66) (v := ?_) (a' := ?_) #[true, true, true, true, true, true, false, false, false, false, false, false, false, false, false, false, false, false, false, false, false, false, false, false, false, false, false, false, false, false, false] rfl rfl (by kernel_rfl) (fun _ _ _ h => h) (Or.inl ⟨by rfl, ?_⟩) ?_ ?_
          rotate_left
          · intro w'
            go_simp
            with_reducible rfl
          rotate_left
          · simp only [Act.put, List.setIfInBounds_toArray, List.set_cons_zero, List.set_cons_succ, i64_w, i32_w]
            rfl
          refine one_ (i := 6) (N := some 67) #[true, true, true, true, true, true, true, false, false, false, false, false, false, false, false, false, false, false, false, false, false, false, false, false, false, false, false, false, false, false, false] rfl rfl (by kernel_rfl) (by decide) (fun K hK => ?_)
          refine goes_ Tryd.func17 (by kernel_rfl) rfl #[.slice none 0 0, .slice none 0 0] (by rfl) rfl rfl (by simp only [List.map_toArray, List.map_cons, List.map_nil]; rfl) ?_
          with_reducible refine ((F1.out _)).mono ?_
          rintro e' y1 ⟨rfl, v1⟩
          refine ⟨_, rfl, ?_⟩
          refine hK.out _ _ ⟨(below_cell v1 hHeld.1), (hHeld.2.1.keeps (Keeps.of_below (S := fun _ => False) v1) (fun e => e) (fun _ _ e => e)), (hHeld.2.2.1.below v1), (hHeld.2.2.2.trans (v1.mono hHeld.2.2.2.size))⟩ (fun hHeld => ?_)
          clear hK K
          refine norm_ (a' := ?_) ?_ ?_
          rotate_left
          · show Act.put _ (some 67) _ = _
            simp only [Act.put, List.setIfInBounds_toArray, List.set_cons_zero, List.set_cons_succ, i64_w, i32_w]
            rfl
          refine pure_ (i := 7) (N := some 68) (v := ?_) (a' := ?_) #[true, true, true, true, true, true, true, true, false, false, false, false, false, false, false, false, false, false, false, false, false, false, false, false, false, false, false, false, false, false, false] rfl rfl (by kernel_rfl) (fun _ _ _ h => h) (Or.inl ⟨by rfl, ?_⟩) ?_ ?_
          rotate_left
          · intro w'
            go_simp
            with_reducible rfl
          rotate_left
          · simp only [Act.put, List.setIfInBounds_toArray, List.set_cons_zero, List.set_cons_succ, i64_w, i32_w]
            rfl
          refine pure_ (i := 8) (N := some 69) (v := ?_) (a' := ?_) #[true, true, true, true, true, true, true, true, true, false, false, false, false, false, false, false, false, false, false, false, false, false, false, false, false, false, false, false, false, false, false] rfl rfl (by kernel_rfl) (fun _ _ _ h => h) (Or.inl ⟨by rfl, ?_⟩) ?_ ?_
          rotate_left
          · intro w'
            go_simp
            with_reducible rfl
          rotate_left
          · simp only [Act.put, List.setIfInBounds_toArray, List.set_cons_zero, List.set_cons_succ, i64_w, i32_w]
            rfl
          refine pure_ (i := 9) (N := some 70) (v := ?_) (a' := ?_) #[true, true, true, true, true, true, true, true, true, true, false, false, false, false, false, false, false, false, false, false, false, false, false, false, false, false, false, false, false, false, false] rfl rfl (by kernel_rfl) (fun _ _ _ h => h) (Or.inl ⟨by rfl, ?_⟩) ?_ ?_
          rotate_left
          · intro w'
            go_simp
            with_reducible rfl
          rotate_left
          · simp only [Act.put, List.setIfInBounds_toArray, List.set_cons_zero, List.set_cons_succ, i64_w, i32_w]
            rfl
          refine pure_ (i := 10) (N := some 71) (v := ?_) (a' := ?_) #[true, true, true, true, true, true, true, true, true, true, true, false, false, false, false, false, false, false, false, false, false, false, false, false, false, false, false, false, false, false, false] rfl rfl (by kernel_rfl) (fun _ _ _ h => h) (Or.inl ⟨by rfl, ?_⟩) ?_ ?_
          rotate_left
          · intro w'
            go_simp
            with_reducible rfl
          rotate_left
          · simp only [Act.put, List.setIfInBounds_toArray, List.set_cons_zero, List.set_cons_succ, i64_w, i32_w]
            rfl
          refine pure_ (i := 11) (N := some 72) (v := ?_) (a' := ?_) #[true, true, true, true, true, true, true, true, true, true, true, true, false, false, false, false, false, false, false, false, false, false, false, false, false, false, false, false, false, false, false] rfl rfl (by kernel_rfl) (fun _ _ _ h => h) (Or.inl ⟨by rfl, ?_⟩) ?_ ?_
          rotate_left
          · intro w'
            go_simp
            with_reducible rfl
          rotate_left
          · simp only [Act.put, List.setIfInBounds_toArray, List.set_cons_zero, List.set_cons_succ, i64_w, i32_w]
            rfl
          refine pure_ (i := 12) (N := some 73) (v := ?_) (a' := ?_) #[true, true, true, true, true, true, true, true, true, true, true, true, true, false, false, false, false, false, false, false, false, false, false, false, false, false, false, false, false, false, false] rfl rfl (by kernel_rfl) (fun _ _ _ h => h) (Or.inl ⟨by rfl, ?_⟩) ?_ ?_
          rotate_left
          · intro w'
            go_simp
            with_reducible rfl
          rotate_left
          · simp only [Act.put, List.setIfInBounds_toArray, List.set_cons_zero, List.set_cons_succ, i64_w, i32_w]
            rfl
          refine pure_ (i := 13) (N := some 74) (v := ?_) (a' := ?_) #[true, true, true, true, true, true, true, true, true, true, true, true, true, true, false, false, false, false, false, false, false, false, false, false, false, false, false, false, false, false, false] rfl rfl (by kernel_rfl) (fun _ _ _ h => h) (Or.inl ⟨by rfl, ?_⟩) ?_ ?_
          rotate_left
          · intro w'
            go_simp
            with_reducible rfl
          rotate_left
          · simp only [Act.put, List.setIfInBounds_toArray, List.set_cons_zero, List.set_cons_succ, i64_w, i32_w]
            rfl
          refine pure_ (i := 14) (N := some 75) (v := ?_) (a' := ?_) #[true, true, true, true, true, true, true, true, true, true, true, true, true, true, true, false, false, false, false, false, false, false, false, false, false, false, false, false, false, false, false] rfl rfl (by kernel_rfl) (fun _ _ _ h => h) (Or.inl ⟨by rfl, ?_⟩) ?_ ?_
          rotate_left
          · intro w'
            go_simp
            with_reducible rfl
          rotate_left
          · simp only [Act.put, List.setIfInBounds_toArray, List.set_cons_zero, List.set_cons_succ, i64_w, i32_w]
            rfl
          refine pure_ (i := 15) (N := some 76) (v := ?_) (a' := ?_) #[true, true, true, true, true, true, true, true, true, true, true, true, true, true, true, true, false, false, false, false, false, false, false, false, false, false, false, false, false, false, false] rfl rfl (by kernel_rfl) (fun _ _ _ h => h) (Or.inl ⟨by rfl, ?_⟩) ?_ ?_
          rotate_left
          · intro w'
            go_simp
            with_reducible rfl
          rotate_left
          · simp only [Act.put, List.setIfInBounds_toArray, List.set_cons_zero, List.set_cons_succ, i64_w, i32_w]
            rfl
          refine pure_ (i := 16) (N := some 77) (v := ?_) (a' := ?_) #[true, true, true, true, true, true, true, true, true, true, true, true, true, true, true, true, true, false, false, false, false, false, false, false, false, false, false, false, false, false, false] rfl rfl (by kernel_rfl) (fun _ _ _ h => h) (Or.inl ⟨by rfl, ?_⟩) ?_ ?_
          rotate_left
          · intro w'
            go_simp
            with_reducible rfl
          rotate_left
          · simp only [Act.put, List.setIfInBounds_toArray, List.set_cons_zero, List.set_cons_succ, i64_w, i32_w]
            rfl
          refine pure_ (i := 18) (N := some 79) (v := ?_) (a' := ?_) #[true, true, true, true, true, true, true, true, true, true, true, true, true, true, true, true, true, false, true, false, false, false, false, false, false, false, false, false, false, false, false] rfl rfl (by kernel_rfl) (fun _ _ _ h => h) (Or.inl ⟨by rfl, ?_⟩) ?_ ?_
          rotate_left
          · intro w'
            go_simp
            with_reducible rfl
          rotate_left
          · simp only [Act.put, List.setIfInBounds_toArray, List.set_cons_zero, List.set_cons_succ, i64_w, i32_w]
            rfl
          refine one_ (i := 17) (N := some 78) #[true, true, true, true, true, true, true, true, true, true, true, true, true, true, true, true, true, true, true, false, false, false, false, false, false, false, false, false, false, false, false] rfl rfl (by kernel_rfl) (by decide) (fun K hK => ?_)
          refine goes_ Tryd.func26 (by kernel_rfl) rfl #[.pointer none] (by rfl) rfl rfl (by simp only [List.map_toArray, List.map_cons, List.map_nil]; rfl) ?_
          with_reducible refine ((F2.out _)).mono ?_
          rintro e' y2 ⟨rfl, rfl⟩
          refine ⟨_, rfl, ?_⟩
          refine hK.out _ _ ⟨hHeld.1, hHeld.2.1, hHeld.2.2.1, hHeld.2.2.2⟩ (fun hHeld => ?_)
          clear hK K
          refine norm_ (a' := ?_) ?_ ?_
          rotate_left
          · show Act.put _ (some 78) _ = _
            simp only [Act.put, List.setIfInBounds_toArray, List.set_cons_zero, List.set_cons_succ, i64_w, i32_w]
            rfl
          refine pure_ (i := 19) (N := some 80) (v := ?_) (a' := ?_) #[true, true, true, true, true, true, true, true, true, true, true, true, true, true, true, true, true, true, true, true, false, false, false, false, false, false, false, false, false, false, false] rfl rfl (by kernel_rfl) (fun _ _ _ h => h) (Or.inl ⟨by rfl, ?_⟩) ?_ ?_
          rotate_left
          · intro w'
            go_simp
            with_reducible rfl
          rotate_left
          · simp only [Act.put, List.setIfInBounds_toArray, List.set_cons_zero, List.set_cons_succ, i64_w, i32_w]
            rfl
          refine pure_ (i := 20) (N := some 81) (v := ?_) (a' := ?_) #[true, true, true, true, true, true, true, true, true, true, true, true, true, true, true, true, true, true, true, true, true, false, false, false, false, false, false, false, false, false, false] rfl rfl (by kernel_rfl) (fun _ _ _ h => h) (Or.inl ⟨by rfl, ?_⟩) ?_ ?_
          rotate_left
          · intro w'
            go_simp
            with_reducible rfl
          rotate_left
          · simp only [Act.put, List.setIfInBounds_toArray, List.set_cons_zero, List.set_cons_succ, i64_w, i32_w]
            rfl
          refine pure_ (i := 21) (N := some 82) (v := ?_) (a' := ?_) #[true, true, true, true, true, true, true, true, true, true, true, true, true, true, true, true, true, true, true, true, true, true, false, false, false, false, false, false, false, false, false] rfl rfl (by kernel_rfl) (fun _ _ _ h => h) (Or.inl ⟨by rfl, ?_⟩) ?_ ?_
          rotate_left
          · intro w'
            go_simp
            with_reducible rfl
          rotate_left
          · simp only [Act.put, List.setIfInBounds_toArray, List.set_cons_zero, List.set_cons_succ, i64_w, i32_w]
            rfl
          refine pure_ (i := 22) (N := some 83) (v := ?_) (a' := ?_) #[true, true, true, true, true, true, true, true, true, true, true, true, true, true, true, true, true, true, true, true, true, true, true, false, false, false, false, false, false, false, false] rfl rfl (by kernel_rfl) (fun _ _ _ h => h) (Or.inl ⟨by rfl, ?_⟩) ?_ ?_
          rotate_left
          · intro w'
            go_simp
            with_reducible rfl
          rotate_left
          · simp only [Act.put, List.setIfInBounds_toArray, List.set_cons_zero, List.set_cons_succ, i64_w, i32_w]
            rfl
          refine pure_ (i := 24) (N := some 85) (v := ?_) (a' := ?_) #[true, true, true, true, true, true, true, true, true, true, true, true, true, true, true, true, true, true, true, true, true, true, true, false, true, false, false, false, false, false, false] rfl rfl (by kernel_rfl) (fun _ _ _ h => h) (Or.inl ⟨by rfl, ?_⟩) ?_ ?_
          rotate_left
          · intro w'
            go_simp
            with_reducible rfl
          rotate_left
          · simp only [Act.put, List.setIfInBounds_toArray, List.set_cons_zero, List.set_cons_succ, i64_w, i32_w]
            rfl
          refine pure_ (i := 25) (N := some 86) (v := ?_) (a' := ?_) #[true, true, true, true, true, true, true, true, true, true, true, true, true, true, true, true, true, true, true, true, true, true, true, false, true, true, false, false, false, false, false] rfl rfl (by kernel_rfl) (fun _ _ _ h => h) (Or.inl ⟨by rfl, ?_⟩) ?_ ?_
          rotate_left
          · intro w'
            go_simp
            with_reducible rfl
          rotate_left
          · simp only [Act.put, List.setIfInBounds_toArray, List.set_cons_zero, List.set_cons_succ, i64_w, i32_w]
            rfl
          refine pure_ (i := 26) (N := some 87) (v := ?_) (a' := ?_) #[true, true, true, true, true, true, true, true, true, true, true, true, true, true, true, true, true, true, true, true, true, true, true, false, true, true, true, false, false, false, false] rfl rfl (by kernel_rfl) (fun _ _ _ h => h) (Or.inl ⟨by rfl, ?_⟩) ?_ ?_
          rotate_left
          · intro w'
            go_simp
            with_reducible rfl
          rotate_left
          · simp only [Act.put, List.setIfInBounds_toArray, List.set_cons_zero, List.set_cons_succ, i64_w, i32_w]
            rfl
          refine take_ (i := 27) (N := some 88) (v := ?_) (a' := ?_) #[true, true, true, true, true, true, true, true, true, true, true, true, true, true, true, true, true, true, true, true, true, true, true, false, true, true, true, true, false, false, false] rfl rfl (by kernel_rfl) (fun _ _ _ h => h) (Or.inl ⟨by rfl, ?_⟩) hHeld ?_ ?_
          rotate_left
          · rintro w' ⟨s0, s1, s2, s3⟩
            go_simp
            with_reducible rfl
          rotate_left
          · simp only [Act.put, List.setIfInBounds_toArray, List.set_cons_zero, List.set_cons_succ, i64_w, i32_w]
            rfl
          refine one_ (i := 23) (N := some 84) #[true, true, true, true, true, true, true, true, true, true, true, true, true, true, true, true, true, true, true, true, true, true, true, true, true, true, true, true, false, false, false] rfl rfl (by kernel_rfl) (by decide) (fun K hK => ?_)
          refine goes_ Tryd.func27 (by kernel_rfl) rfl #[.pointer (some ⟨b, 0, none⟩)] (by rfl) rfl rfl (by simp only [List.map_toArray, List.map_cons, List.map_nil]; rfl) ?_
          with_reducible refine ((F3.out _ hHeld.2.1)).mono ?_
          rintro e' y3 ⟨Ay, cy, rfl, ry, v3⟩
          refine ⟨_, rfl, ?_⟩
          refine hK.out _ _ ⟨(below_cell v3 hHeld.1), (hHeld.2.1.keeps (Keeps.of_below (S := fun _ => False) v3) (fun e => e) (fun _ _ e => e)), (hHeld.2.2.1.below v3), (hHeld.2.2.2.trans (v3.mono hHeld.2.2.2.size))⟩ (fun hHeld => ?_)
          clear hK K
          refine norm_ (a' := ?_) ?_ ?_
          rotate_left
          · show Act.put _ (some 84) _ = _
            simp only [Act.put, List.setIfInBounds_toArray, List.set_cons_zero, List.set_cons_succ, i64_w, i32_w]
            rfl
          refine one_ (i := 28) (N := some 89) #[true, true, true, true, true, true, true, true, true, true, true, true, true, true, true, true, true, true, true, true, true, true, true, true, true, true, true, true, true, false, false] rfl rfl (by kernel_rfl) (by decide) (fun K hK => ?_)
          refine goes_ Tryd.func15 (by kernel_rfl) rfl #[.slice Ay tn cy, .slice Am tn cm] (by rfl) rfl rfl (by simp only [List.map_toArray, List.map_cons, List.map_nil]; rfl) ?_
          with_reducible refine ((F4.out _ _ _ ry hHeld.2.2.1)).mono ?_
          rintro e' y4 ⟨rfl, v4⟩
          refine ⟨_, rfl, ?_⟩
          have B10 := hHeld.2.2.2.trans (v4.mono hHeld.2.2.2.size)
          refine hK.out _ _ ⟨(below_cell v4 hHeld.1), (hHeld.2.1.keeps (Keeps.of_below (S := fun _ => False) v4) (fun e => e) (fun _ _ e => e)), (hHeld.2.2.1.below v4), (hHeld.2.2.2.trans (v4.mono hHeld.2.2.2.size))⟩ (fun hHeld => ?_)
          clear hK K
          refine norm_ (a' := ?_) ?_ ?_
          rotate_left
          · show Act.put _ (some 89) _ = _
            simp only [Act.put, List.setIfInBounds_toArray, List.set_cons_zero, List.set_cons_succ, i64_w, i32_w]
            rfl
          refine pure_ (i := 29) (N := some 90) (v := ?_) (a' := ?_) #[true, true, true, true, true, true, true, true, true, true, true, true, true, true, true, true, true, true, true, true, true, true, true, true, true, true, true, true, true, true, false] rfl rfl (by kernel_rfl) (fun _ _ _ h => h) (Or.inl ⟨by rfl, ?_⟩) ?_ ?_
          rotate_left
          · intro w'
            go_simp
            with_reducible rfl
          rotate_left
          · simp only [Act.put, List.setIfInBounds_toArray, List.set_cons_zero, List.set_cons_succ, i64_w, i32_w]
            rfl
          refine pure_ (i := 30) (N := some 6) (v := ?_) (a' := ?_) #[true, true, true, true, true, true, true, true, true, true, true, true, true, true, true, true, true, true, true, true, true, true, true, true, true, true, true, true, true, true, true] rfl rfl (by kernel_rfl) (fun _ _ _ h => h) (Or.inl ⟨by rfl, ?_⟩) ?_ ?_
          rotate_left
          · intro w'
            go_simp
            with_reducible rfl
          rotate_left
          · simp only [Act.put, List.setIfInBounds_toArray, List.set_cons_zero, List.set_cons_succ, i64_w, i32_w]
            rfl
          refine done_ (by kernel_rfl) ?_
          clear F1 F2 F3 F4 cm0 d9 qm B9
          go_wp2
          go_ret
          exact ⟨rfl, B10⟩
    · have ht : decide (smallB (texts zs)) = false := by simp [h1]
      have H := hid (both_any hT)
      go_enter Tryd.func6, Tryd.ntmps6
      go_wp2_with fail
      refine H.out.mono ?_
      rintro e w1 ⟨rfl, B1⟩
      have H0 := small_any (hZ.below B1) ⟨z1, z2⟩
      rw [ht] at H0
      have H := hid H0
      clear H0 ht
      go_wp2_with fail
      refine H.out.mono ?_
      rintro e w2 ⟨rfl, rfl⟩
      have H := hid (both_any (hT.below B1))
      go_wp2_with fail
      refine H.out.mono ?_
      rintro e w2 ⟨rfl, b2⟩
      go_wp2
      go_ret
      exact ⟨rfl, below_then B1 b2⟩
end Go.Proofs.YtponofojildbmaaDoor
