/- WalPlays: whatever is appended, synced, fails, is lost, and opened again: what the disk has, what is found. -/
import Derived.Test.YtponofojildbmaaDoorWalT
import Derived.Test.YtponofojildbmaaDoorWalK
import Derived.Test.YtponofojildbmaaDoorActs8
import Derived.Test.YtponofojildbmaaDoorLawWalScans
import Derived.Deep.DeepCutAuto
import Derived.Deep.CutBlock
set_option linter.unusedVariables false
set_option linter.unusedSimpArgs false
namespace Go.Proofs.YtponofojildbmaaDoor
open Go.RowKit PrintLast

theorem len_append (s : DS) (q : List UInt8) : (s.append q).p.length ≤ s.p.length + q.length := by
  unfold DS.append
  cases s.ok <;> simp
theorem len_sync (s : DS) : s.sync.p.length ≤ s.p.length := by
  unfold DS.sync
  cases s.ok <;> simp [DS.called]
theorem len_crash (s : DS) (n : Int) : (s.crash n).p.length ≤ s.p.length := by
  simp only [DS.crash, List.length_take]; omega

theorem Play.obj {w : World} {B b b' : Nat} {s : DS} {t : RS} {lg n y : Nat} {o : Obj} (h : Play w B b b' s t lg n y o) : w.heap[y]? = some o := by
  obtain ⟨_, _, _, _, _, _, _, h6, _⟩ := h
  exact h6
theorem Play.lt_ref {w : World} {B b b' : Nat} {s : DS} {t : RS} {lg n y : Nat} {o : Obj} (h : Play w B b b' s t lg n y o) : b' < w.heap.size := by
  obtain ⟨_, _, _, h2, _⟩ := h
  exact h2.lt.1
set_option maxRecDepth 100000 in
set_option maxHeartbeats 12800000 in
theorem plays_walk {w : World} (hT : Table w) {A : Option Addr} {cap : Nat} {l : List LAct} (h0 : l.length ≤ cap ∧ cap ≤ maxLen ∧ LActsAt w A l) :
    Calls Tryd.prog 9 #[.slice A l.length cap] w fun e w' => e = .returned (.bool true) ∧ Below w.heap.size w w' := by
  obtain ⟨hl, hm, h⟩ := h0
  unfold maxLen at hm
  by_cases h40 : 40 < l.length
  · have t40 : decide ((40 : Int) < (l.length : Int)) = true := by simp; omega
    have H := hid (both_any hT)
    go_enter Tryd.func9, Tryd.ntmps9
    go_wp2_with fail
    refine H.out.mono ?_
    rintro e w1 ⟨rfl, b1⟩
    have H := hid (both_any (hT.below b1))
    go_wp2_with fail
    refine H.out.mono ?_
    rintro e w2 ⟨rfl, b2⟩
    go_wp2
    go_ret
    exact ⟨rfl, below_then b1 b2⟩
  · have t40 : decide ((40 : Int) < (l.length : Int)) = false := by simp; omega
    have HT := hid hT
    have HG := hid (show 0 < w.heap.size by obtain ⟨_, _, hx⟩ := hT; exact lt_of_block hx)
    have H := hid (both_any hT)
    obtain ⟨n, hn⟩ : ∃ n, n = l.length := ⟨_, rfl⟩
    have HN := hid hn
    rw [← hn] at t40 hl h40 ⊢
    have HA := hid h
    clear hT hn h
    go_enter Tryd.func9, Tryd.ntmps9
    go_wp2_with fail
    refine H.out.mono ?_
    rintro e w1 ⟨rfl, B1⟩
    have H := hid (new_any (BSA.nil w1) (by simp))
    go_wp2_with fail
    refine H.out.mono ?_
    rintro e w2 ⟨b, r, rfl, d2, n1, n2, b2⟩
    have H := hid (rnew_any (BSA.nil w2) (by simp))
    go_wp2_with fail
    refine H.out.mono ?_
    rintro e w3 ⟨b', r', rfl, d3, m1, m2, b3⟩
    have B3 := below_then (below_then B1 b2) b3
    have d2' := d2.keeps (Keeps.of_below (S := fun _ => False) b3) (fun e => e) (fun _ _ e => e)
    have H := hid (open_at (HT.out.below B3) d2' (by simp))
    have e0 : opN ⟨[], ([] : List UInt8).length, 0, false⟩ = 0 := by
      show (scanB []).2 = 0
      rw [scanB_none (nextB_short (by decide))]
    have e1 : opS ⟨[], ([] : List UInt8).length, 0, false⟩ = ⟨[], 0, 0, false⟩ := by unfold opS; rw [e0]; rfl
    have e2 : opE ⟨[], ([] : List UInt8).length, 0, false⟩ = 0 := by unfold opE; rw [e0]; rfl
    have E := hid (And.intro e0 (And.intro e1 e2))
    have P2 := hid (And.intro d2.lt (And.intro n1 (And.intro n2 (And.intro d3 (And.intro m1 (And.intro m2 (And.intro b2.size B1.size)))))))
    have B3' := hid B3
    clear e0 e1 e2 d2 n1 n2 b2 d3 m1 m2 b3 B3 B1 d2'
    go_wp2_with fail
    refine H.out.mono ?_
    rintro e w4 ⟨r4, d4, x4, k4, ⟨hE, lg, R, cR, ps, rfl, lp, hps, hlg, hlg2, hne, hne2, _⟩ | ⟨hE, _⟩⟩
    · obtain ⟨s0, hs0⟩ : ∃ s : DS, s = ⟨[], 0, 0, false⟩ := ⟨_, rfl⟩
      have P0 : PlayH w4 w.heap.size b b' s0 s0.ref lg 0 := by
        obtain ⟨⟨l1, l2⟩, n1, n2, d3, m1, m2, s2, s1⟩ := P2.out
        obtain ⟨q1, q2⟩ := d3.lt
        have s3 := B3'.out.size
        rw [E.out.2.1] at d4
        rw [E.out.1] at hlg
        rw [hs0]
        have nb : ¬ Foot b r b' := fun e => Or.elim e (fun e => by omega) (fun e => by have := l2 _ e; omega)
        have nr : ∀ k, r' = some k → ¬ Foot b r k := fun k hk e => Or.elim e (fun e => by have := m2 k hk; omega) (fun e => by have := m2 k hk; have := l2 _ e; omega)
        refine ⟨r4, r', ⟨d4, hlg, hne2, hne⟩, d3.keeps k4 nb nr, ⟨by omega, by omega, by omega, fun k hk => ?_, fun k hk => by have := m2 k hk; omega⟩, ⟨by omega, fun e => by have := m2 _ e; omega, fun e => ?_, fun k hk e => ?_⟩, ⟨by omega, fun e => by have := q2 _ e; omega⟩⟩
        · rcases x4 k hk with q | q
          · have := n2 k q; omega
          · omega
        · rcases x4 _ e with q | q
          · have := l2 _ q; omega
          · omega
        · rcases x4 k hk with q | q
          · have := l2 _ q; have := m2 k e; omega
          · have := q2 k e; omega
      have B4 : Below w.heap.size w w4 := by
        obtain ⟨⟨l1, l2⟩, n1, n2, _, _, _, s2, s1⟩ := P2.out
        exact below_of B3'.out k4 (fun k hk => Or.elim hk (fun e => by omega) (fun e => by have := n2 k e; omega))
      have Q0 : ∃ (s : DS) (lg' m : Nat), Value.pointer (some ⟨lg, 0, none⟩) = .pointer (some ⟨lg', 0, none⟩) ∧ Value.int .i64 0 = .int .i64 m ∧ m ≤ 68 * 0 ∧ s.p.length ≤ 68 * 0 ∧ PlayH w4 w.heap.size b b' s s.ref lg' m := ⟨s0, lg, 0, rfl, rfl, Nat.le_refl _, by rw [hs0]; exact Nat.le_refl _, P0⟩
      clear E P2 B3' d4 x4 k4 hE lp hps hlg hlg2 hne hne2 P0 hs0 H
      go_wp2
      go_loopw [5, 8, 9] (fun lv sv i wr => ∃ k : Nat, k ≤ n ∧ i = .int .i64 k ∧ (∃ (s : DS) (lg' m : Nat), lv = .pointer (some ⟨lg', 0, none⟩) ∧ sv = .int .i64 m ∧ m ≤ 68 * k ∧ s.p.length ≤ 68 * k ∧ PlayH wr w.heap.size b b' s s.ref lg' m) ∧ Below w.heap.size w wr) (fun _ _ i _ => n - (intOf i).toNat)
      case atStart => exact ⟨0, Nat.zero_le _, rfl, Q0, B4⟩
      case round =>
        clear Q0 B4
        obtain ⟨k, hk, rfl, ⟨s, lg', m, rfl, rfl, hm1, hs1, hP⟩, hB⟩ := hrel
        by_cases hlt : k < n
        · have t1 : decide ((k : Int) < (n : Int)) = true := by simp; omega
          have hkl : k < l.length := by rw [← HN.out]; exact hlt
          obtain ⟨ab, ao, Bx, cx, rfl, c0, c1, c2, bp⟩ := HA.out.at_ k hkl
          have sB := hB.size
          replace c0 := below_cell hB c0
          replace c1 := below_cell hB c1
          replace c2 := below_cell hB c2
          have bp0 := bp
          replace bp := bp.below hB
          obtain ⟨x, hx⟩ : ∃ x, x = l[k] := ⟨_, rfl⟩
          simp only [← hx] at c0 c1 c2 bp bp0
          clear hx hkl
          by_cases h60 : 60 < x.p.length
          · have t60 : decide ((60 : Int) < (x.p.length : Int)) = true := by simp; omega
            go_wp2
            go_ret
            exact ⟨rfl, hB.alloc sB _⟩
          · have t60 : decide ((60 : Int) < (x.p.length : Int)) = false := by simp; omega
            have dA := hP.alloc (.cells #[.int .u8 (x.d.toNat : Int), .slice Bx x.p.length cx, .int .u8 (x.n.toNat : Int)] 60)
            have hBA := hB.alloc sB (.cells #[.int .u8 (x.d.toNat : Int), .slice Bx x.p.length cx, .int .u8 (x.n.toNat : Int)] 60)
            have bA := bp.below (below_alloc (Below.refl _ wr) (.cells #[.int .u8 (x.d.toNat : Int), .slice Bx x.p.length cx, .int .u8 (x.n.toNat : Int)] 60))
            clear hP hB bp
            go_upto_block 2 with fail
            clear c0 c1 c2
            go_goals
            go_cut [5, 8, 11] (fun lv sv ok wx => ok = .bool true ∧ ∃ (s' : DS) (lg2 m' : Nat), lv = .pointer (some ⟨lg2, 0, none⟩) ∧ sv = .int .i64 m' ∧ m' ≤ 68 * (k + 1) ∧ s'.p.length ≤ 68 * (k + 1) ∧ PlayH wx w.heap.size b b' s' s'.ref lg2 m' ∧ Below w.heap.size w wx)
            case first =>
              generalize hW : wr.alloc (.cells #[.int .u8 (x.d.toNat : Int), .slice Bx x.p.length cx, .int .u8 (x.n.toNat : Int)] 60) = W at *
              clear hW
              have LB := dA.lt_ref
              have v8 : x.d.toNat % 8 = 0 ∨ x.d.toNat % 8 = 1 ∨ x.d.toNat % 8 = 2 ∨ x.d.toNat % 8 = 3 ∨ x.d.toNat % 8 = 4 ∨ x.d.toNat % 8 = 5 ∨ x.d.toNat % 8 = 6 ∨ x.d.toNat % 8 = 7 := by omega
              rcases v8 with hv | hv | hv | hv | hv | hv | hv | hv
              ·
                have q0 : ((x.d.toNat : Int) % 8 == 0) = true := by simp; omega
                have q1 : ((x.d.toNat : Int) % 8 == 1) = false := by simp; omega
                have q2 : ((x.d.toNat : Int) % 8 == 2) = false := by simp; omega
                have q3 : ((x.d.toNat : Int) % 8 == 3) = false := by simp; omega
                have q4 : ((x.d.toNat : Int) % 8 == 4) = false := by simp; omega
                have q5 : ((x.d.toNat : Int) % 8 == 5) = false := by simp; omega
                have q6 : ((x.d.toNat : Int) % 8 == 6) = false := by simp; omega
                have q7 : ((x.d.toNat : Int) % 8 == 7) = false := by simp; omega
                clear hv
                have H := hid (rframe_any bA (by omega))
                have k1 := cell_at dA.obj (i := 1) (v := .slice Bx x.p.length cx) rfl
                go_wp2_with fail
                refine H.out.mono ?_
                rintro e w5 ⟨A5, c5, rfl, r5, b5⟩
                have d5 := dA.below b5
                have B5 := hBA.trans (b5.mono hBA.size)
                have hqb : ∀ ad, A5 = some ad → 0 < (frameB x.p).length → ad.block ≠ b' := fun ad e _ => by have := (r5.lt ad.block (by rw [e]; rfl)).1; omega
                have C2a := pq_append B5.size d5 r5.bsa hqb (by show s.p.length + _ ≤ _; rw [frameB_length]; omega)
                rw [ref_errno, ref_append] at C2a
                have C2 := hid C2a
                clear C2a r5 b5 hqb dA
                go_wp2_with fail
                refine C2.out.mono ?_
                rintro e w6 ⟨rfl, d6, b6⟩
                have B6 := B5.trans b6
                have k1' := cell_at d6.obj (i := 1) (v := .slice Bx x.p.length cx) rfl
                have C1 := hid (pl_append (HT.out.below B6) B6.size d6 (bp0.below B6) (by omega) (by omega) (by omega))
                clear d5 b6 k1 B5
                go_wp2_with fail
                refine C1.out.mono ?_
                rintro e w7 ⟨rfl, d7, b7⟩
                have B7 := B6.trans b7
                have k1'' := cell_at d7.obj (i := 1) (v := .slice Bx x.p.length cx) rfl
                have ln := len_append s (frameB x.p)
                rw [frameB_length] at ln
                cases hok : s.ok
                · have he : s.errno = 9 := by simp [DS.errno, hok]
                  rw [he]
                  rw [hok, if_neg (by decide)] at d7
                  have HR := hid (And.intro (show m ≤ 68 * (k + 1) by omega) (And.intro (show (s.append (frameB x.p)).p.length ≤ 68 * (k + 1) by omega) (And.intro d7.head B7)))
                  clear he hok d7 d6 b7 B7 B6 C1 C2 k1' ln
                  go_wp2
                  go_meet
                  exact ⟨rfl, _, _, _, rfl, rfl, HR.out⟩
                · have he : s.errno = 0 := by simp [DS.errno, hok]
                  rw [he]
                  rw [hok, if_pos rfl] at d7
                  obtain ⟨N, hN⟩ : ∃ N, N = m + (8 + x.p.length) := ⟨_, rfl⟩
                  have em : (m : Int) + (8 + (x.p.length : Int)) = (N : Int) := by omega
                  have hNb : N ≤ 3000 := by omega
                  rw [← hN] at d7
                  have HR := hid (And.intro (show N ≤ 68 * (k + 1) by omega) (And.intro (show (s.append (frameB x.p)).p.length ≤ 68 * (k + 1) by omega) (And.intro d7.head B7)))
                  clear he hok d7 d6 b7 B7 B6 C1 C2 k1' ln hN
                  go_wp2
                  go_meet
                  exact ⟨rfl, _, _, _, rfl, rfl, HR.out⟩
              ·
                have q0 : ((x.d.toNat : Int) % 8 == 0) = false := by simp; omega
                have q1 : ((x.d.toNat : Int) % 8 == 1) = true := by simp; omega
                have q2 : ((x.d.toNat : Int) % 8 == 2) = false := by simp; omega
                have q3 : ((x.d.toNat : Int) % 8 == 3) = false := by simp; omega
                have q4 : ((x.d.toNat : Int) % 8 == 4) = false := by simp; omega
                have q5 : ((x.d.toNat : Int) % 8 == 5) = false := by simp; omega
                have q6 : ((x.d.toNat : Int) % 8 == 6) = false := by simp; omega
                have q7 : ((x.d.toNat : Int) % 8 == 7) = false := by simp; omega
                clear hv
                have H := hid (rframe_any bA (by omega))
                have k1 := cell_at dA.obj (i := 1) (v := .slice Bx x.p.length cx) rfl
                go_wp2_with fail
                refine H.out.mono ?_
                rintro e w5 ⟨A5, c5, rfl, r5, b5⟩
                have d5 := dA.below b5
                have B5 := hBA.trans (b5.mono hBA.size)
                have hqb : ∀ ad, A5 = some ad → 0 < (frameB x.p).length → ad.block ≠ b' := fun ad e _ => by have := (r5.lt ad.block (by rw [e]; rfl)).1; omega
                have C2a := pq_append B5.size d5 r5.bsa hqb (by show s.p.length + _ ≤ _; rw [frameB_length]; omega)
                rw [ref_errno, ref_append] at C2a
                have C2 := hid C2a
                clear C2a r5 b5 hqb dA
                go_wp2_with fail
                refine C2.out.mono ?_
                rintro e w6 ⟨rfl, d6, b6⟩
                have B6 := B5.trans b6
                have k1' := cell_at d6.obj (i := 1) (v := .slice Bx x.p.length cx) rfl
                have C1 := hid (pl_append (HT.out.below B6) B6.size d6 (bp0.below B6) (by omega) (by omega) (by omega))
                clear d5 b6 k1 B5
                go_wp2_with fail
                refine C1.out.mono ?_
                rintro e w7 ⟨rfl, d7, b7⟩
                have B7 := B6.trans b7
                have k1'' := cell_at d7.obj (i := 1) (v := .slice Bx x.p.length cx) rfl
                have ln := len_append s (frameB x.p)
                rw [frameB_length] at ln
                cases hok : s.ok
                · have he : s.errno = 9 := by simp [DS.errno, hok]
                  rw [he]
                  rw [hok, if_neg (by decide)] at d7
                  have HR := hid (And.intro (show m ≤ 68 * (k + 1) by omega) (And.intro (show (s.append (frameB x.p)).p.length ≤ 68 * (k + 1) by omega) (And.intro d7.head B7)))
                  clear he hok d7 d6 b7 B7 B6 C1 C2 k1' ln
                  go_wp2
                  go_meet
                  exact ⟨rfl, _, _, _, rfl, rfl, HR.out⟩
                · have he : s.errno = 0 := by simp [DS.errno, hok]
                  rw [he]
                  rw [hok, if_pos rfl] at d7
                  obtain ⟨N, hN⟩ : ∃ N, N = m + (8 + x.p.length) := ⟨_, rfl⟩
                  have em : (m : Int) + (8 + (x.p.length : Int)) = (N : Int) := by omega
                  have hNb : N ≤ 3000 := by omega
                  rw [← hN] at d7
                  have HR := hid (And.intro (show N ≤ 68 * (k + 1) by omega) (And.intro (show (s.append (frameB x.p)).p.length ≤ 68 * (k + 1) by omega) (And.intro d7.head B7)))
                  clear he hok d7 d6 b7 B7 B6 C1 C2 k1' ln hN
                  go_wp2
                  go_meet
                  exact ⟨rfl, _, _, _, rfl, rfl, HR.out⟩
              ·
                have q0 : ((x.d.toNat : Int) % 8 == 0) = false := by simp; omega
                have q1 : ((x.d.toNat : Int) % 8 == 1) = false := by simp; omega
                have q2 : ((x.d.toNat : Int) % 8 == 2) = true := by simp; omega
                have q3 : ((x.d.toNat : Int) % 8 == 3) = false := by simp; omega
                have q4 : ((x.d.toNat : Int) % 8 == 4) = false := by simp; omega
                have q5 : ((x.d.toNat : Int) % 8 == 5) = false := by simp; omega
                have q6 : ((x.d.toNat : Int) % 8 == 6) = false := by simp; omega
                have q7 : ((x.d.toNat : Int) % 8 == 7) = false := by simp; omega
                clear hv
                have H := hid (rframe_any bA (by omega))
                have k1 := cell_at dA.obj (i := 1) (v := .slice Bx x.p.length cx) rfl
                go_wp2_with fail
                refine H.out.mono ?_
                rintro e w5 ⟨A5, c5, rfl, r5, b5⟩
                have d5 := dA.below b5
                have B5 := hBA.trans (b5.mono hBA.size)
                have hqb : ∀ ad, A5 = some ad → 0 < (frameB x.p).length → ad.block ≠ b' := fun ad e _ => by have := (r5.lt ad.block (by rw [e]; rfl)).1; omega
                have C2a := pq_append B5.size d5 r5.bsa hqb (by show s.p.length + _ ≤ _; rw [frameB_length]; omega)
                rw [ref_errno, ref_append] at C2a
                have C2 := hid C2a
                clear C2a r5 b5 hqb dA
                go_wp2_with fail
                refine C2.out.mono ?_
                rintro e w6 ⟨rfl, d6, b6⟩
                have B6 := B5.trans b6
                have k1' := cell_at d6.obj (i := 1) (v := .slice Bx x.p.length cx) rfl
                have C1 := hid (pl_append (HT.out.below B6) B6.size d6 (bp0.below B6) (by omega) (by omega) (by omega))
                clear d5 b6 k1 B5
                go_wp2_with fail
                refine C1.out.mono ?_
                rintro e w7 ⟨rfl, d7, b7⟩
                have B7 := B6.trans b7
                have k1'' := cell_at d7.obj (i := 1) (v := .slice Bx x.p.length cx) rfl
                have ln := len_append s (frameB x.p)
                rw [frameB_length] at ln
                cases hok : s.ok
                · have he : s.errno = 9 := by simp [DS.errno, hok]
                  rw [he]
                  rw [hok, if_neg (by decide)] at d7
                  have HR := hid (And.intro (show m ≤ 68 * (k + 1) by omega) (And.intro (show (s.append (frameB x.p)).p.length ≤ 68 * (k + 1) by omega) (And.intro d7.head B7)))
                  clear he hok d7 d6 b7 B7 B6 C1 C2 k1' ln
                  go_wp2
                  go_meet
                  exact ⟨rfl, _, _, _, rfl, rfl, HR.out⟩
                · have he : s.errno = 0 := by simp [DS.errno, hok]
                  rw [he]
                  rw [hok, if_pos rfl] at d7
                  obtain ⟨N, hN⟩ : ∃ N, N = m + (8 + x.p.length) := ⟨_, rfl⟩
                  have em : (m : Int) + (8 + (x.p.length : Int)) = (N : Int) := by omega
                  have hNb : N ≤ 3000 := by omega
                  rw [← hN] at d7
                  have HR := hid (And.intro (show N ≤ 68 * (k + 1) by omega) (And.intro (show (s.append (frameB x.p)).p.length ≤ 68 * (k + 1) by omega) (And.intro d7.head B7)))
                  clear he hok d7 d6 b7 B7 B6 C1 C2 k1' ln hN
                  go_wp2
                  go_meet
                  exact ⟨rfl, _, _, _, rfl, rfl, HR.out⟩
              ·
                have q0 : ((x.d.toNat : Int) % 8 == 0) = false := by simp; omega
                have q1 : ((x.d.toNat : Int) % 8 == 1) = false := by simp; omega
                have q2 : ((x.d.toNat : Int) % 8 == 2) = false := by simp; omega
                have q3 : ((x.d.toNat : Int) % 8 == 3) = true := by simp; omega
                have q4 : ((x.d.toNat : Int) % 8 == 4) = false := by simp; omega
                have q5 : ((x.d.toNat : Int) % 8 == 5) = false := by simp; omega
                have q6 : ((x.d.toNat : Int) % 8 == 6) = false := by simp; omega
                have q7 : ((x.d.toNat : Int) % 8 == 7) = false := by simp; omega
                clear hv
                have C1 := hid (pl_sync hBA.size dA)
                go_wp2_with fail
                refine C1.out.mono ?_
                rintro e w5 ⟨rfl, d5, b5⟩
                have B5 := hBA.trans b5
                have C2a := pq_sync B5.size d5
                rw [ref_errno, ref_sync] at C2a
                have C2 := hid C2a
                clear C2a dA b5
                go_wp2_with fail
                refine C2.out.mono ?_
                rintro e w6 ⟨rfl, d6, b6⟩
                have ln := len_sync s
                have HR := hid (And.intro (show m ≤ 68 * (k + 1) by omega) (And.intro (show s.sync.p.length ≤ 68 * (k + 1) by omega) (And.intro d6.head (B5.trans b6))))
                clear d5 d6 b6 B5 C1 C2 ln
                go_wp2
                go_meet
                exact ⟨rfl, _, _, _, rfl, rfl, HR.out⟩
              ·
                have q0 : ((x.d.toNat : Int) % 8 == 0) = false := by simp; omega
                have q1 : ((x.d.toNat : Int) % 8 == 1) = false := by simp; omega
                have q2 : ((x.d.toNat : Int) % 8 == 2) = false := by simp; omega
                have q3 : ((x.d.toNat : Int) % 8 == 3) = false := by simp; omega
                have q4 : ((x.d.toNat : Int) % 8 == 4) = true := by simp; omega
                have q5 : ((x.d.toNat : Int) % 8 == 5) = false := by simp; omega
                have q6 : ((x.d.toNat : Int) % 8 == 6) = false := by simp; omega
                have q7 : ((x.d.toNat : Int) % 8 == 7) = false := by simp; omega
                clear hv
                have C1 := hid (pl_sync hBA.size dA)
                go_wp2_with fail
                refine C1.out.mono ?_
                rintro e w5 ⟨rfl, d5, b5⟩
                have B5 := hBA.trans b5
                have C2a := pq_sync B5.size d5
                rw [ref_errno, ref_sync] at C2a
                have C2 := hid C2a
                clear C2a dA b5
                go_wp2_with fail
                refine C2.out.mono ?_
                rintro e w6 ⟨rfl, d6, b6⟩
                have ln := len_sync s
                have HR := hid (And.intro (show m ≤ 68 * (k + 1) by omega) (And.intro (show s.sync.p.length ≤ 68 * (k + 1) by omega) (And.intro d6.head (B5.trans b6))))
                clear d5 d6 b6 B5 C1 C2 ln
                go_wp2
                go_meet
                exact ⟨rfl, _, _, _, rfl, rfl, HR.out⟩
              ·
                have q0 : ((x.d.toNat : Int) % 8 == 0) = false := by simp; omega
                have q1 : ((x.d.toNat : Int) % 8 == 1) = false := by simp; omega
                have q2 : ((x.d.toNat : Int) % 8 == 2) = false := by simp; omega
                have q3 : ((x.d.toNat : Int) % 8 == 3) = false := by simp; omega
                have q4 : ((x.d.toNat : Int) % 8 == 4) = false := by simp; omega
                have q5 : ((x.d.toNat : Int) % 8 == 5) = true := by simp; omega
                have q6 : ((x.d.toNat : Int) % 8 == 6) = false := by simp; omega
                have q7 : ((x.d.toNat : Int) % 8 == 7) = false := by simp; omega
                clear hv
                obtain ⟨f6, hf6⟩ : ∃ f, f = x.n.toNat % 6 := ⟨_, rfl⟩
                have hf66 : f6 < 6 := by omega
                have tm6 : (x.n.toNat : Int).tmod 6 = (f6 : Int) := by rw [Int.tmod_eq_emod_of_nonneg (by omega)]; omega
                have tm6' : (x.n.toNat : Int) % 6 = (f6 : Int) := by omega
                have k2 := cell_at dA.obj (i := 2) (v := .int .u8 (x.n.toNat : Int)) rfl
                have C1 := hid (pl_fail hBA.size dA (m := (f6 : Int)) (by omega))
                clear hf6
                go_wp2_with fail
                refine C1.out.mono ?_
                rintro e w5 ⟨rfl, d5, b5⟩
                have B5 := hBA.trans b5
                have k2' := cell_at d5.obj (i := 2) (v := .int .u8 (x.n.toNat : Int)) rfl
                have C2a := pq_fail B5.size d5 (m := (f6 : Int)) (by omega)
                rw [ref_fail] at C2a
                have C2 := hid C2a
                clear C2a dA b5
                go_wp2_with fail
                refine C2.out.mono ?_
                rintro e w6 ⟨rfl, d6, b6⟩
                have HR := hid (And.intro (show m ≤ 68 * (k + 1) by omega) (And.intro (show (s.fail (f6 : Int)).p.length ≤ 68 * (k + 1) by show s.p.length ≤ _; omega) (And.intro d6.head (B5.trans b6))))
                clear d5 d6 b6 B5 C1 C2
                go_wp2
                go_meet
                exact ⟨rfl, _, _, _, rfl, rfl, HR.out⟩
              ·
                have q0 : ((x.d.toNat : Int) % 8 == 0) = false := by simp; omega
                have q1 : ((x.d.toNat : Int) % 8 == 1) = false := by simp; omega
                have q2 : ((x.d.toNat : Int) % 8 == 2) = false := by simp; omega
                have q3 : ((x.d.toNat : Int) % 8 == 3) = false := by simp; omega
                have q4 : ((x.d.toNat : Int) % 8 == 4) = false := by simp; omega
                have q5 : ((x.d.toNat : Int) % 8 == 5) = false := by simp; omega
                have q6 : ((x.d.toNat : Int) % 8 == 6) = true := by simp; omega
                have q7 : ((x.d.toNat : Int) % 8 == 7) = false := by simp; omega
                clear hv
                have hle := dA.le
                have nb : (x.n.toNat : Int) ≤ 9223372036854775807 := by have := x.n.toNat_lt; omega
                have k2 := cell_at dA.obj (i := 2) (v := .int .u8 (x.n.toNat : Int)) rfl
                have C1 := hid (pl_crash hBA.size dA (m := (x.n.toNat : Int)) (by omega) (by omega))
                go_wp2_with fail
                refine C1.out.mono ?_
                rintro e w5 ⟨rfl, d5, b5⟩
                have B5 := hBA.trans b5
                have k2' := cell_at d5.obj (i := 2) (v := .int .u8 (x.n.toNat : Int)) rfl
                have C2a := pq_crash B5.size d5 (m := (x.n.toNat : Int)) nb (by show s.p.length ≤ _; omega)
                rw [ref_crash s _ hle] at C2a
                have C2 := hid C2a
                clear C2a dA b5 k2
                go_wp2_with fail
                refine C2.out.mono ?_
                rintro e w6 ⟨rfl, d6, b6⟩
                have B6 := B5.trans b6
                obtain ⟨s2, hs2⟩ : ∃ s2, s2 = s.crash (x.n.toNat : Int) := ⟨_, rfl⟩
                rw [← hs2] at d6
                have ls2 : s2.p.length ≤ 68 * k := by rw [hs2]; exact Nat.le_trans (len_crash s _) hs1
                have hE : opE s2 = 0 := by rw [hs2]; exact opE_crash s _
                have LS := hid (And.intro ls2 hE)
                have C3 := hid (reopen1 (HT.out.below B6) B6.size d6.head hE (by omega))
                clear hs2 hE d6 d5 b6 k2' B5 C1 C2 hle
                go_wp2_with fail
                refine C3.out.mono ?_
                rintro e w7 ⟨lg2, R, cR, ps, r7, rfl, d7, lp, hps, e7, hM, b7⟩
                have B7 := B6.trans b7
                have C4a := reopen2 B7.size d7 lp e7 hM (by rw [(ro_same s2).1]; exact LS.out.2) (by show s2.p.length ≤ _; omega)
                rw [(ro_same s2).2.1, (ro_same s2).2.2] at C4a
                have lN := opN_le s2
                obtain ⟨N, hN⟩ : ∃ N, N = opN s2 := ⟨_, rfl⟩
                rw [← hN] at C4a d7 lN
                have hNb : N ≤ 3000 := by omega
                have C4 := hid C4a
                clear C4a hN b7 e7 hM C3 B6 d7 lp
                go_wp2_with fail
                refine C4.out.mono ?_
                rintro e w8 ⟨S, cS, qs, rfl, d8, lp8, lq8, hqs, b8⟩
                have B8 := B7.trans b8
                have lql : qs.length = ps.length := by rw [← texts_length qs, ← texts_length ps, hqs, hps]; rfl
                have few : ps.length ≤ s2.p.length := by rw [← texts_length ps, hps]; exact scan_few s2.p
                have C5a := same_any (c := cR) (d := cS) lp8 lq8 (by omega) (by omega)
                rw [show decide (texts ps = texts qs) = true by rw [decide_eq_true_iff, hqs, hps]; rfl, lql] at C5a
                obtain ⟨q, hq⟩ : ∃ q, q = ps.length := ⟨_, rfl⟩
                rw [← hq] at C5a
                rw [lql, ← hq]
                have C5 := hid C5a
                clear C5a hq lql few hqs hps lp8 lq8 b8 B7 C4
                go_wp2_with fail
                refine C5.out.mono ?_
                rintro e w9 ⟨rfl, b9⟩
                have HR := hid (And.intro (show N ≤ 68 * (k + 1) by omega) (And.intro (show (opS s2).p.length ≤ 68 * (k + 1) by have := opS_len s2; omega) (And.intro (d8.below b9) (B8.trans (b9.mono B8.size)))))
                clear d8 b9 B8 C5 ls2 lN LS
                go_wp2
                go_meet
                exact ⟨rfl, _, _, _, rfl, rfl, HR.out⟩
              ·
                have q0 : ((x.d.toNat : Int) % 8 == 0) = false := by simp; omega
                have q1 : ((x.d.toNat : Int) % 8 == 1) = false := by simp; omega
                have q2 : ((x.d.toNat : Int) % 8 == 2) = false := by simp; omega
                have q3 : ((x.d.toNat : Int) % 8 == 3) = false := by simp; omega
                have q4 : ((x.d.toNat : Int) % 8 == 4) = false := by simp; omega
                have q5 : ((x.d.toNat : Int) % 8 == 5) = false := by simp; omega
                have q6 : ((x.d.toNat : Int) % 8 == 6) = false := by simp; omega
                have q7 : ((x.d.toNat : Int) % 8 == 7) = true := by simp; omega
                clear hv
                have hle := dA.le
                have nb : (x.n.toNat : Int) ≤ 9223372036854775807 := by have := x.n.toNat_lt; omega
                have k2 := cell_at dA.obj (i := 2) (v := .int .u8 (x.n.toNat : Int)) rfl
                have C1 := hid (pl_crash hBA.size dA (m := (x.n.toNat : Int)) (by omega) (by omega))
                go_wp2_with fail
                refine C1.out.mono ?_
                rintro e w5 ⟨rfl, d5, b5⟩
                have B5 := hBA.trans b5
                have k2' := cell_at d5.obj (i := 2) (v := .int .u8 (x.n.toNat : Int)) rfl
                have C2a := pq_crash B5.size d5 (m := (x.n.toNat : Int)) nb (by show s.p.length ≤ _; omega)
                rw [ref_crash s _ hle] at C2a
                have C2 := hid C2a
                clear C2a dA b5 k2
                go_wp2_with fail
                refine C2.out.mono ?_
                rintro e w6 ⟨rfl, d6, b6⟩
                have B6 := B5.trans b6
                obtain ⟨s2, hs2⟩ : ∃ s2, s2 = s.crash (x.n.toNat : Int) := ⟨_, rfl⟩
                rw [← hs2] at d6
                have ls2 : s2.p.length ≤ 68 * k := by rw [hs2]; exact Nat.le_trans (len_crash s _) hs1
                have hE : opE s2 = 0 := by rw [hs2]; exact opE_crash s _
                have LS := hid (And.intro ls2 hE)
                have C3 := hid (reopen1 (HT.out.below B6) B6.size d6.head hE (by omega))
                clear hs2 hE d6 d5 b6 k2' B5 C1 C2 hle
                go_wp2_with fail
                refine C3.out.mono ?_
                rintro e w7 ⟨lg2, R, cR, ps, r7, rfl, d7, lp, hps, e7, hM, b7⟩
                have B7 := B6.trans b7
                have C4a := reopen2 B7.size d7 lp e7 hM (by rw [(ro_same s2).1]; exact LS.out.2) (by show s2.p.length ≤ _; omega)
                rw [(ro_same s2).2.1, (ro_same s2).2.2] at C4a
                have lN := opN_le s2
                obtain ⟨N, hN⟩ : ∃ N, N = opN s2 := ⟨_, rfl⟩
                rw [← hN] at C4a d7 lN
                have hNb : N ≤ 3000 := by omega
                have C4 := hid C4a
                clear C4a hN b7 e7 hM C3 B6 d7 lp
                go_wp2_with fail
                refine C4.out.mono ?_
                rintro e w8 ⟨S, cS, qs, rfl, d8, lp8, lq8, hqs, b8⟩
                have B8 := B7.trans b8
                have lql : qs.length = ps.length := by rw [← texts_length qs, ← texts_length ps, hqs, hps]; rfl
                have few : ps.length ≤ s2.p.length := by rw [← texts_length ps, hps]; exact scan_few s2.p
                have C5a := same_any (c := cR) (d := cS) lp8 lq8 (by omega) (by omega)
                rw [show decide (texts ps = texts qs) = true by rw [decide_eq_true_iff, hqs, hps]; rfl, lql] at C5a
                obtain ⟨q, hq⟩ : ∃ q, q = ps.length := ⟨_, rfl⟩
                rw [← hq] at C5a
                rw [lql, ← hq]
                have C5 := hid C5a
                clear C5a hq lql few hqs hps lp8 lq8 b8 B7 C4
                go_wp2_with fail
                refine C5.out.mono ?_
                rintro e w9 ⟨rfl, b9⟩
                have HR := hid (And.intro (show N ≤ 68 * (k + 1) by omega) (And.intro (show (opS s2).p.length ≤ 68 * (k + 1) by have := opS_len s2; omega) (And.intro (d8.below b9) (B8.trans (b9.mono B8.size)))))
                clear d8 b9 B8 C5 ls2 lN LS
                go_wp2
                go_meet
                exact ⟨rfl, _, _, _, rfl, rfl, HR.out⟩
            case rest =>
              obtain ⟨rfl, s', lg2, m', rfl, rfl, hm2, hp1, d1, hb1⟩ := hcut
              have P1 := d1.below (Below.refl _ wc).drew
              obtain ⟨r1, r1', ⟨p1, p2, _, _⟩, p3, _⟩ := id d1
              obtain ⟨A2, c2, g1, g2, g3, _⟩ := p3
              have cl := cell_at p2 (i := 1) (v := .int .i64 (m' : Int)) rfl
              obtain ⟨T, hT9⟩ : ∃ T, T = s'.p := ⟨_, rfl⟩
              obtain ⟨tn, htn⟩ : ∃ n, n = T.length := ⟨_, rfl⟩
              obtain ⟨sn, hsn⟩ : ∃ n, n = s'.safe := ⟨_, rfl⟩
              have x0 := cell_at g1 (i := 0) (v := .slice A2 s'.ref.p.length c2) rfl
              have x1 := cell_at g1 (i := 1) (v := .int .i64 (s'.safe : Int)) rfl
              have e10 : s'.ref.p.length = tn := by rw [htn, hT9]; rfl
              rw [e10] at x0
              rw [← hsn] at x1
              have qm : BSA wc A2 c2 s'.p := (own_bsa g2).2.2
              rw [← hT9] at qm
              have F1 := hid (fun (w' : World) (h : DiskAt w' b r1 s') => show Calls Tryd.prog 27 #[.pointer (some ⟨b, 0, none⟩)] w' fun e w'' => ∃ A' c', e = .returned (.slice A' tn c') ∧ BSA w'' A' c' T ∧ Below w'.heap.size w' w'' by
                refine (read_any h (by omega)).mono ?_
                rintro e w'' ⟨A', c', rfl, m1, m2, m3⟩
                exact ⟨A', c', by rw [htn, hT9], by rw [hT9]; exact (own_bsa m1).2.2, m3⟩)
              have F2 := hid (fun (w' : World) (A' : Option Addr) (c' : Nat) (h1 : BSA w' A' c' T) (h2 : BSA w' A2 c2 T) => show Calls Tryd.prog 15 #[.slice A' tn c', .slice A2 tn c2] w' fun e w'' => e = .returned (.bool true) ∧ Below w'.heap.size w' w'' by
                have H0 := bytes_any h1 h2
                rw [show decide (T = T) = true by simp, ← htn] at H0
                exact H0)
              have F3 := hid (fun (w' : World) (h : DiskAt w' b r1 s') => show Calls Tryd.prog 35 #[.pointer (some ⟨b, 0, none⟩)] w' fun e w'' => e = .returned (.int .i64 (sn : Int)) ∧ w' = w'' by
                rw [hsn]; exact safe_any h)
              have F4 := hid (fun (w' : World) (h : w'.cell? ⟨lg2, 1, none⟩ = some (.int .i64 (m' : Int))) => size_of h)
              have HQ := hid (And.intro hm2 hp1)
              have B1 := hb1.drew
              clear dA hBA bA g1 g2 g3 p2 e10 htn hT9 hsn hp1 d1 hb1 hm2 hm1 hs1
              go_wp2
              refine start_ (n := 27) (S := fun w' => w'.cell? ⟨b', 0, none⟩ = some (.slice A2 tn c2) ∧ w'.cell? ⟨b', 1, none⟩ = some (.int .i64 (sn : Int)) ∧ DiskAt w' b r1 s' ∧ BSA w' A2 c2 T ∧ Below w.heap.size w w' ∧ w'.cell? ⟨lg2, 1, none⟩ = some (.int .i64 (m' : Int)) ∧ PlayH w' w.heap.size b b' s' s'.ref lg2 m') (ds := []) #[false, false, false, false, false, false, false, false, false, false, false, false, false, false, false, false, false, false, false, false, false, false, false, false, false, false, false] (by kernel_rfl) rfl rfl ⟨x0, x1, p1, qm, B1, cl, P1⟩ (fun hHeld => ?_)
              refine pure_ (i := 0) (N := some 136) (v := ?_) (a' := ?_) #[true, false, false, false, false, false, false, false, false, false, false, false, false, false, false, false, false, false, false, false, false, false, false, false, false, false, false] rfl rfl (by kernel_rfl) (fun _ _ _ h => h) (Or.inl ⟨by rfl, ?_⟩) ?_ ?_
              rotate_left
              · intro w'
                go_simp
                with_reducible rfl
              rotate_left
              · simp only [Act.put, List.setIfInBounds_toArray, List.set_cons_zero, List.set_cons_succ, i64_w, i32_w]
                rfl
              refine pure_ (i := 1) (N := some 137) (v := ?_) (a' := ?_) #[true, true, false, false, false, false, false, false, false, false, false, false, false, false, false, false, false, false, false, false, false, false, false, false, false, false, false] rfl rfl (by kernel_rfl) (fun _ _ _ h => h) (Or.inl ⟨by rfl, ?_⟩) ?_ ?_
              rotate_left
              · intro w'
                go_simp
                with_reducible rfl
              rotate_left
              · simp only [Act.put, List.setIfInBounds_toArray, List.set_cons_zero, List.set_cons_succ, i64_w, i32_w]
                rfl
              refine pure_ (i := 2) (N := some 138) (v := ?_) (a' := ?_) #[true, true, true, false, false, false, false, false, false, false, false, false, false, false, false, false, false, false, false, false, false, false, false, false, false, false, false] rfl rfl (by kernel_rfl) (fun _ _ _ h => h) (Or.inl ⟨by rfl, ?_⟩) ?_ ?_
              rotate_left
              · intro w'
                go_simp
                with_reducible rfl
              rotate_left
              · simp only [Act.put, List.setIfInBounds_toArray, List.set_cons_zero, List.set_cons_succ, i64_w, i32_w]
                rfl
              refine pure_ (i := 3) (N := some 139) (v := ?_) (a' := ?_) #[true, true, true, true, false, false, false, false, false, false, false, false, false, false, false, false, false, false, false, false, false, false, false, false, false, false, false] rfl rfl (by kernel_rfl) (fun _ _ _ h => h) (Or.inl ⟨by rfl, ?_⟩) ?_ ?_
              rotate_left
              · intro w'
                go_simp
                with_reducible rfl
              rotate_left
              · simp only [Act.put, List.setIfInBounds_toArray, List.set_cons_zero, List.set_cons_succ, i64_w, i32_w]
                rfl
              refine pure_ (i := 5) (N := some 141) (v := ?_) (a' := ?_) #[true, true, true, true, false, true, false, false, false, false, false, false, false, false, false, false, false, false, false, false, false, false, false, false, false, false, false] rfl rfl (by kernel_rfl) (fun _ _ _ h => h) (Or.inl ⟨by rfl, ?_⟩) ?_ ?_
              rotate_left
              · intro w'
                go_simp
                with_reducible rfl
              rotate_left
              · simp only [Act.put, List.setIfInBounds_toArray, List.set_cons_zero, List.set_cons_succ, i64_w, i32_w]
                rfl
              refine pure_ (i := 6) (N := some 142) (v := ?_) (a' := ?_) #[true, true, true, true, false, true, true, false, false, false, false, false, false, false, false, false, false, false, false, false, false, false, false, false, false, false, false] rfl rfl (by kernel_rfl) (fun _ _ _ h => h) (Or.inl ⟨by rfl, ?_⟩) ?_ ?_
              rotate_left
              · intro w'
                go_simp
                with_reducible rfl
              rotate_left
              · simp only [Act.put, List.setIfInBounds_toArray, List.set_cons_zero, List.set_cons_succ, i64_w, i32_w]
                rfl
              refine pure_ (i := 7) (N := some 143) (v := ?_) (a' := ?_) #[true, true, true, true, false, true, true, true, false, false, false, false, false, false, false, false, false, false, false, false, false, false, false, false, false, false, false] rfl rfl (by kernel_rfl) (fun _ _ _ h => h) (Or.inl ⟨by rfl, ?_⟩) ?_ ?_
              rotate_left
              · intro w'
                go_simp
                with_reducible rfl
              rotate_left
              · simp only [Act.put, List.setIfInBounds_toArray, List.set_cons_zero, List.set_cons_succ, i64_w, i32_w]
                rfl
              refine take_ (i := 8) (N := some 144) (v := ?_) (a' := ?_) #[true, true, true, true, false, true, true, true, true, false, false, false, false, false, false, false, false, false, false, false, false, false, false, false, false, false, false] rfl rfl (by kernel_rfl) (fun _ _ _ h => h) (Or.inl ⟨by rfl, ?_⟩) hHeld ?_ ?_
              rotate_left
              · rintro w' ⟨s0, s1, s2, s3, s4, s5, s6⟩
                go_simp
                with_reducible rfl
              rotate_left
              · simp only [Act.put, List.setIfInBounds_toArray, List.set_cons_zero, List.set_cons_succ, i64_w, i32_w]
                rfl
              refine one_ (i := 4) (N := some 140) #[true, true, true, true, true, true, true, true, true, false, false, false, false, false, false, false, false, false, false, false, false, false, false, false, false, false, false] rfl rfl (by kernel_rfl) (by decide) (fun K hK => ?_)
              refine goes_ Tryd.func27 (by kernel_rfl) rfl #[.pointer (some ⟨b, 0, none⟩)] (by rfl) rfl rfl (by simp only [List.map_toArray, List.map_cons, List.map_nil]; rfl) ?_
              with_reducible refine ((F1.out _ hHeld.2.2.1)).mono ?_
              rintro e' y3 ⟨Ay, cy, rfl, ry, v3⟩
              refine ⟨_, rfl, ?_⟩
              refine hK.out _ _ ⟨(below_cell v3 hHeld.1), (below_cell v3 hHeld.2.1), (hHeld.2.2.1.keeps (Keeps.of_below (S := fun _ => False) v3) (fun e => e) (fun _ _ e => e)), (hHeld.2.2.2.1.below v3), (hHeld.2.2.2.2.1.trans (v3.mono hHeld.2.2.2.2.1.size)), (below_cell v3 hHeld.2.2.2.2.2.1), (hHeld.2.2.2.2.2.2.below v3)⟩ (fun hHeld => ?_)
              clear hK K
              refine norm_ (a' := ?_) ?_ ?_
              rotate_left
              · show Act.put _ (some 140) _ = _
                simp only [Act.put, List.setIfInBounds_toArray, List.set_cons_zero, List.set_cons_succ, i64_w, i32_w]
                rfl
              refine one_ (i := 9) (N := some 145) #[true, true, true, true, true, true, true, true, true, true, false, false, false, false, false, false, false, false, false, false, false, false, false, false, false, false, false] rfl rfl (by kernel_rfl) (by decide) (fun K hK => ?_)
              refine goes_ Tryd.func15 (by kernel_rfl) rfl #[.slice Ay tn cy, .slice A2 tn c2] (by rfl) rfl rfl (by simp only [List.map_toArray, List.map_cons, List.map_nil]; rfl) ?_
              with_reducible refine ((F2.out _ _ _ ry hHeld.2.2.2.1)).mono ?_
              rintro e' y4 ⟨rfl, v4⟩
              refine ⟨_, rfl, ?_⟩
              refine hK.out _ _ ⟨(below_cell v4 hHeld.1), (below_cell v4 hHeld.2.1), (hHeld.2.2.1.keeps (Keeps.of_below (S := fun _ => False) v4) (fun e => e) (fun _ _ e => e)), (hHeld.2.2.2.1.below v4), (hHeld.2.2.2.2.1.trans (v4.mono hHeld.2.2.2.2.1.size)), (below_cell v4 hHeld.2.2.2.2.2.1), (hHeld.2.2.2.2.2.2.below v4)⟩ (fun hHeld => ?_)
              clear hK K
              refine norm_ (a' := ?_) ?_ ?_
              rotate_left
              · show Act.put _ (some 145) _ = _
                simp only [Act.put, List.setIfInBounds_toArray, List.set_cons_zero, List.set_cons_succ, i64_w, i32_w]
                rfl
              refine pure_ (i := 10) (N := some 146) (v := ?_) (a' := ?_) #[true, true, true, true, true, true, true, true, true, true, true, false, false, false, false, false, false, false, false, false, false, false, false, false, false, false, false] rfl rfl (by kernel_rfl) (fun _ _ _ h => h) (Or.inl ⟨by rfl, ?_⟩) ?_ ?_
              rotate_left
              · intro w'
                go_simp
                with_reducible rfl
              rotate_left
              · simp only [Act.put, List.setIfInBounds_toArray, List.set_cons_zero, List.set_cons_succ, i64_w, i32_w]
                rfl
              refine pure_ (i := 11) (N := some 147) (v := ?_) (a' := ?_) #[true, true, true, true, true, true, true, true, true, true, true, true, false, false, false, false, false, false, false, false, false, false, false, false, false, false, false] rfl rfl (by kernel_rfl) (fun _ _ _ h => h) (Or.inl ⟨by rfl, ?_⟩) ?_ ?_
              rotate_left
              · intro w'
                go_simp
                with_reducible rfl
              rotate_left
              · simp only [Act.put, List.setIfInBounds_toArray, List.set_cons_zero, List.set_cons_succ, i64_w, i32_w]
                rfl
              refine pure_ (i := 12) (N := some 148) (v := ?_) (a' := ?_) #[true, true, true, true, true, true, true, true, true, true, true, true, true, false, false, false, false, false, false, false, false, false, false, false, false, false, false] rfl rfl (by kernel_rfl) (fun _ _ _ h => h) (Or.inl ⟨by rfl, ?_⟩) ?_ ?_
              rotate_left
              · intro w'
                go_simp
                with_reducible rfl
              rotate_left
              · simp only [Act.put, List.setIfInBounds_toArray, List.set_cons_zero, List.set_cons_succ, i64_w, i32_w]
                rfl
              refine pure_ (i := 13) (N := some 149) (v := ?_) (a' := ?_) #[true, true, true, true, true, true, true, true, true, true, true, true, true, true, false, false, false, false, false, false, false, false, false, false, false, false, false] rfl rfl (by kernel_rfl) (fun _ _ _ h => h) (Or.inl ⟨by rfl, ?_⟩) ?_ ?_
              rotate_left
              · intro w'
                go_simp
                with_reducible rfl
              rotate_left
              · simp only [Act.put, List.setIfInBounds_toArray, List.set_cons_zero, List.set_cons_succ, i64_w, i32_w]
                rfl
              refine pure_ (i := 15) (N := some 151) (v := ?_) (a' := ?_) #[true, true, true, true, true, true, true, true, true, true, true, true, true, true, false, true, false, false, false, false, false, false, false, false, false, false, false] rfl rfl (by kernel_rfl) (fun _ _ _ h => h) (Or.inl ⟨by rfl, ?_⟩) ?_ ?_
              rotate_left
              · intro w'
                go_simp
                with_reducible rfl
              rotate_left
              · simp only [Act.put, List.setIfInBounds_toArray, List.set_cons_zero, List.set_cons_succ, i64_w, i32_w]
                rfl
              refine pure_ (i := 16) (N := some 152) (v := ?_) (a' := ?_) #[true, true, true, true, true, true, true, true, true, true, true, true, true, true, false, true, true, false, false, false, false, false, false, false, false, false, false] rfl rfl (by kernel_rfl) (fun _ _ _ h => h) (Or.inl ⟨by rfl, ?_⟩) ?_ ?_
              rotate_left
              · intro w'
                go_simp
                with_reducible rfl
              rotate_left
              · simp only [Act.put, List.setIfInBounds_toArray, List.set_cons_zero, List.set_cons_succ, i64_w, i32_w]
                rfl
              refine pure_ (i := 17) (N := some 153) (v := ?_) (a' := ?_) #[true, true, true, true, true, true, true, true, true, true, true, true, true, true, false, true, true, true, false, false, false, false, false, false, false, false, false] rfl rfl (by kernel_rfl) (fun _ _ _ h => h) (Or.inl ⟨by rfl, ?_⟩) ?_ ?_
              rotate_left
              · intro w'
                go_simp
                with_reducible rfl
              rotate_left
              · simp only [Act.put, List.setIfInBounds_toArray, List.set_cons_zero, List.set_cons_succ, i64_w, i32_w]
                rfl
              refine take_ (i := 18) (N := some 154) (v := ?_) (a' := ?_) #[true, true, true, true, true, true, true, true, true, true, true, true, true, true, false, true, true, true, true, false, false, false, false, false, false, false, false] rfl rfl (by kernel_rfl) (fun _ _ _ h => h) (Or.inl ⟨by rfl, ?_⟩) hHeld ?_ ?_
              rotate_left
              · rintro w' ⟨s0, s1, s2, s3, s4, s5, s6⟩
                go_simp
                with_reducible rfl
              rotate_left
              · simp only [Act.put, List.setIfInBounds_toArray, List.set_cons_zero, List.set_cons_succ, i64_w, i32_w]
                rfl
              refine one_ (i := 14) (N := some 150) #[true, true, true, true, true, true, true, true, true, true, true, true, true, true, true, true, true, true, true, false, false, false, false, false, false, false, false] rfl rfl (by kernel_rfl) (by decide) (fun K hK => ?_)
              refine goes_ Tryd.func35 (by kernel_rfl) rfl #[.pointer (some ⟨b, 0, none⟩)] (by rfl) rfl rfl (by simp only [List.map_toArray, List.map_cons, List.map_nil]; rfl) ?_
              with_reducible refine ((F3.out _ hHeld.2.2.1)).mono ?_
              rintro e' y5 ⟨rfl, rfl⟩
              refine ⟨_, rfl, ?_⟩
              refine hK.out _ _ ⟨hHeld.1, hHeld.2.1, hHeld.2.2.1, hHeld.2.2.2.1, hHeld.2.2.2.2.1, hHeld.2.2.2.2.2.1, hHeld.2.2.2.2.2.2⟩ (fun hHeld => ?_)
              clear hK K
              refine norm_ (a' := ?_) ?_ ?_
              rotate_left
              · show Act.put _ (some 150) _ = _
                simp only [Act.put, List.setIfInBounds_toArray, List.set_cons_zero, List.set_cons_succ, i64_w, i32_w]
                rfl
              refine pure_ (i := 19) (N := some 155) (v := ?_) (a' := ?_) #[true, true, true, true, true, true, true, true, true, true, true, true, true, true, true, true, true, true, true, true, false, false, false, false, false, false, false] rfl rfl (by kernel_rfl) (fun _ _ _ h => h) (Or.inl ⟨by rfl, ?_⟩) ?_ ?_
              rotate_left
              · intro w'
                go_simp
                with_reducible rfl
              rotate_left
              · simp only [Act.put, List.setIfInBounds_toArray, List.set_cons_zero, List.set_cons_succ, i64_w, i32_w]
                rfl
              refine pure_ (i := 20) (N := some 156) (v := ?_) (a' := ?_) #[true, true, true, true, true, true, true, true, true, true, true, true, true, true, true, true, true, true, true, true, true, false, false, false, false, false, false] rfl rfl (by kernel_rfl) (fun _ _ _ h => h) (Or.inl ⟨by rfl, ?_⟩) ?_ ?_
              rotate_left
              · intro w'
                go_simp
                with_reducible rfl
              rotate_left
              · simp only [Act.put, List.setIfInBounds_toArray, List.set_cons_zero, List.set_cons_succ, i64_w, i32_w]
                rfl
              refine pure_ (i := 21) (N := some 157) (v := ?_) (a' := ?_) #[true, true, true, true, true, true, true, true, true, true, true, true, true, true, true, true, true, true, true, true, true, true, false, false, false, false, false] rfl rfl (by kernel_rfl) (fun _ _ _ h => h) (Or.inl ⟨by rfl, ?_⟩) ?_ ?_
              rotate_left
              · intro w'
                go_simp
                with_reducible rfl
              rotate_left
              · simp only [Act.put, List.setIfInBounds_toArray, List.set_cons_zero, List.set_cons_succ, i64_w, i32_w]
                rfl
              refine pure_ (i := 22) (N := some 158) (v := ?_) (a' := ?_) #[true, true, true, true, true, true, true, true, true, true, true, true, true, true, true, true, true, true, true, true, true, true, true, false, false, false, false] rfl rfl (by kernel_rfl) (fun _ _ _ h => h) (Or.inl ⟨by rfl, ?_⟩) ?_ ?_
              rotate_left
              · intro w'
                go_simp
                with_reducible rfl
              rotate_left
              · simp only [Act.put, List.setIfInBounds_toArray, List.set_cons_zero, List.set_cons_succ, i64_w, i32_w]
                rfl
              refine pure_ (i := 24) (N := some 160) (v := ?_) (a' := ?_) #[true, true, true, true, true, true, true, true, true, true, true, true, true, true, true, true, true, true, true, true, true, true, true, false, true, false, false] rfl rfl (by kernel_rfl) (fun _ _ _ h => h) (Or.inl ⟨by rfl, ?_⟩) ?_ ?_
              rotate_left
              · intro w'
                go_simp
                with_reducible rfl
              rotate_left
              · simp only [Act.put, List.setIfInBounds_toArray, List.set_cons_zero, List.set_cons_succ, i64_w, i32_w]
                rfl
              refine one_ (i := 23) (N := some 159) #[true, true, true, true, true, true, true, true, true, true, true, true, true, true, true, true, true, true, true, true, true, true, true, true, true, false, false] rfl rfl (by kernel_rfl) (by decide) (fun K hK => ?_)
              refine goes_ Tryd.func26 (by kernel_rfl) rfl #[.pointer (some ⟨lg2, 0, none⟩)] (by rfl) rfl rfl (by simp only [List.map_toArray, List.map_cons, List.map_nil]; rfl) ?_
              with_reducible refine ((F4.out _ hHeld.2.2.2.2.2.1)).mono ?_
              rintro e' y6 ⟨rfl, rfl⟩
              refine ⟨_, rfl, ?_⟩
              have B10 := hHeld.2.2.2.2.1
              have P10 := hHeld.2.2.2.2.2.2
              refine hK.out _ _ ⟨hHeld.1, hHeld.2.1, hHeld.2.2.1, hHeld.2.2.2.1, hHeld.2.2.2.2.1, hHeld.2.2.2.2.2.1, hHeld.2.2.2.2.2.2⟩ (fun hHeld => ?_)
              clear hK K
              refine norm_ (a' := ?_) ?_ ?_
              rotate_left
              · show Act.put _ (some 159) _ = _
                simp only [Act.put, List.setIfInBounds_toArray, List.set_cons_zero, List.set_cons_succ, i64_w, i32_w]
                rfl
              refine pure_ (i := 25) (N := some 161) (v := ?_) (a' := ?_) #[true, true, true, true, true, true, true, true, true, true, true, true, true, true, true, true, true, true, true, true, true, true, true, true, true, true, false] rfl rfl (by kernel_rfl) (fun _ _ _ h => h) (Or.inl ⟨by rfl, ?_⟩) ?_ ?_
              rotate_left
              · intro w'
                go_simp
                with_reducible rfl
              rotate_left
              · simp only [Act.put, List.setIfInBounds_toArray, List.set_cons_zero, List.set_cons_succ, i64_w, i32_w]
                rfl
              refine pure_ (i := 26) (N := some 162) (v := ?_) (a' := ?_) #[true, true, true, true, true, true, true, true, true, true, true, true, true, true, true, true, true, true, true, true, true, true, true, true, true, true, true] rfl rfl (by kernel_rfl) (fun _ _ _ h => h) (Or.inl ⟨by rfl, ?_⟩) ?_ ?_
              rotate_left
              · intro w'
                go_simp
                with_reducible rfl
              rotate_left
              · simp only [Act.put, List.setIfInBounds_toArray, List.set_cons_zero, List.set_cons_succ, i64_w, i32_w]
                rfl
              refine done_ (by kernel_rfl) ?_
              clear F1 F2 F3 F4 x0 x1 p1 qm B1 cl P1
              go_wp2
              go_roundw
              case rel => exact ⟨k + 1, by omega, by go_num, ⟨s', lg2, m', rfl, rfl, HQ.out.1, HQ.out.2, P10⟩, B10⟩
              case measure => simp [intOf]; omega
        · have t1 : decide ((k : Int) < (n : Int)) = false := by simp; omega
          go_wp2
          go_ret
          exact ⟨rfl, hB⟩
    · exfalso
      rw [E.out.2.2] at hE
      exact absurd hE (by decide)
end Go.Proofs.YtponofojildbmaaDoor
