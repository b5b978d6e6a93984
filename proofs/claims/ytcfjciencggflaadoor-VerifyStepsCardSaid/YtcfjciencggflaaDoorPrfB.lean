/- The walks of the reference's text and Decode. -/
import Derived.Test.YtcfjciencggflaaDoorTxtB
set_option linter.unusedVariables false
set_option linter.unusedSimpArgs false
namespace Go.Proofs.YtcfjciencggflaaDoor
open Go.RowKit PrintLast

/-- A cut of bytes, whatever its place: the run of the operation, and what it reads as. -/
theorem cut_run {w : World} {A : Option Addr} {c n k h : Nat} {l : List UInt8} (hl : l.length = n) (hb : BSA w A c l) (h1 : k ≤ h) (h2 : h ≤ n) (h0 : 0 < n) :
    ∃ A' c', (∀ w' : World, (Instr.slice 22 (.slice A n c) (some (.int .i64 (k : Int))) (some (.int .i64 (h : Int))) none).run Tryd.prog w' = .ok (.slice A' (h - k) c') w') ∧ (∀ w' : World, BSA w' A c l → BSA w' A' c' ((l.drop k).take (h - k))) ∧ ((l.drop k).take (h - k)).length = h - k := by
  subst hl
  obtain ⟨g, o, rfl⟩ := hb.place h0
  have hc := hb.1
  have hsz : ∀ w' : World, (sizeOf (Tryd.prog.elem 22)).run Tryd.prog w' = .ok 1 w' := fun _ => by kernel_rfl
  have hrun : ∀ w' : World, (Instr.slice 22 (.slice (some ⟨g, o, none⟩) l.length c) (some (.int .i64 (k : Int))) (some (.int .i64 (h : Int))) none).run Tryd.prog w' = .ok (sliced (some ⟨g, o, none⟩) k h c 1) w' := fun w' => by
    rw [run_slice_lh w' 22 (some ⟨g, o, none⟩) l.length c (by kernel_rfl) .i64 .i64 (k : Int) (h : Int) (by omega) (by omega) (by omega), hsz w']
    simp [Result.andThen]
  have hlen : ((l.drop k).take (h - k)).length = h - k := by rw [List.length_take, List.length_drop]; omega
  by_cases hck : c = k
  · have hh : h - k = 0 := by omega
    refine ⟨some ⟨g, o, none⟩, c - k, fun w' => by rw [hrun w']; simp [sliced, hck], fun w' _ => ?_, hlen⟩
    rw [List.eq_nil_of_length_eq_zero (hlen.trans hh), hck, Nat.sub_self]
    exact BSA.none_ g o
  · refine ⟨some ⟨g, o + k, none⟩, c - k, fun w' => by rw [hrun w']; simp [sliced, hck, add_at], fun w' hb' => ?_, hlen⟩
    exact (hb'.cut k (by omega)).head (h - k)

/-- What text answers. -/
def RText (w : World) (q : List UInt8) (k : Nat) (x : Ending) (w' : World) : Prop :=
  (∃ e, textB (q.drop k) = .error e ∧ (e = 2 ∨ e = 3) ∧ x = .returned (.tuple #[.slice none 0 0, .int .i64 0, .int .i64 (e : Int)]) ∧ w = w') ∨
  (∃ A' c' s, textB (q.drop k) = .ok (s, q.drop (k + 2 + s.length)) ∧ k + 2 + s.length ≤ q.length ∧ x = .returned (.tuple #[.slice A' s.length c', .int .i64 ((k + 2 + s.length : Nat) : Int), .int .i64 0]) ∧ Row w' w.heap.size A' c' s ∧ Below w.heap.size w w')

set_option maxRecDepth 100000 in
set_option maxHeartbeats 3200000 in
theorem rtext_any {w : World} {A : Option Addr} {c k n : Nat} {q : List UInt8} (hn : q.length = n) (hq : BSA w A c q) (hk : k ≤ n) (hb : n ≤ 1000000) :
    Calls Tryd.prog 40 #[.slice A n c, .int .i64 (k : Int)] w (RText w q k) := by
  have hd : (q.drop k).length = n - k := by rw [List.length_drop, hn]
  by_cases h2 : n - k < 2
  · have t1 : decide ((n : Int) - (k : Int) < 2) = true := by simp; omega
    have H := hid (show textB (q.drop k) = .error 3 by unfold textB; rw [if_pos (by rw [hd]; exact h2)])
    clear hq hn hd
    go_enter Tryd.func40, Tryd.ntmps40
    go_wp2
    go_ret3
    exact .inl ⟨3, H.out, .inr rfl, rfl, rfl⟩
  · have t1 : decide ((n : Int) - (k : Int) < 2) = false := by simp; omega
    obtain ⟨A1, c1, S1, B1, L1⟩ := cut_run (k := k) (h := k + 2) hn hq (by omega) (by omega) (by omega)
    rw [show k + 2 - k = 2 by omega] at S1 B1 L1
    have s1 : ((k + 2 : Nat) : Int) = (k : Int) + 2 := by omega
    rw [s1] at S1
    obtain ⟨m, hm⟩ : ∃ m, m = readNat ((q.drop k).take 2) := ⟨_, rfl⟩
    have hm2 : m < 65536 := by
      have := readNat_lt 2 _ L1
      rw [hm]; exact this
    have R1 := readN_any (B1 w hq) (by rw [L1]; omega)
    rw [L1, ← hm] at R1
    have HR := hid R1
    have HM := hid hm
    have HN := hid hn
    have HQ := hid hq
    have HD := hid hd
    clear hn hq hd B1 L1 hm R1 s1
    go_enter Tryd.func40, Tryd.ntmps40
    go_wp2_with fail
    refine HR.out.mono ?_
    rintro e w1 ⟨rfl, rfl⟩
    clear S1
    by_cases hbig : 4000 < m
    · have t2 : decide ((4000 : Int) < (m : Int)) = true := by simp; omega
      have H := hid (show textB (q.drop k) = .error 2 by unfold textB; rw [if_neg (by rw [HD.out]; exact h2), if_pos (by rw [← HM.out]; exact hbig)])
      clear hbig
      go_wp2
      go_ret3
      exact .inl ⟨2, H.out, .inl rfl, rfl, rfl⟩
    · have t2 : decide ((4000 : Int) < (m : Int)) = false := by simp; omega
      have dd : ((q.drop k).drop 2).length = n - k - 2 := by rw [List.length_drop, HD.out]
      by_cases hlong : n - k - 2 < m
      · have t3 : decide ((n : Int) - ((k : Int) + 2) < (m : Int)) = true := by simp; omega
        have H := hid (show textB (q.drop k) = .error 3 by unfold textB; rw [if_neg (by rw [HD.out]; exact h2), if_neg (by rw [← HM.out]; exact hbig), if_pos (by rw [← HM.out, dd]; exact hlong)])
        clear hlong hbig dd
        go_wp2
        go_ret3
        exact .inl ⟨3, H.out, .inr rfl, rfl, rfl⟩
      · have t3 : decide ((n : Int) - ((k : Int) + 2) < (m : Int)) = false := by simp; omega
        obtain ⟨A2, c2, S2, B2, L2⟩ := cut_run (k := k + 2) (h := k + 2 + m) HN.out HQ.out (by omega) (by omega) (by omega)
        rw [show k + 2 + m - (k + 2) = m by omega] at S2 B2 L2
        have s1 : ((k + 2 : Nat) : Int) = (k : Int) + 2 := by omega
        have s2 : ((k + 2 + m : Nat) : Int) = (k : Int) + 2 + (m : Int) := by omega
        rw [s1, s2] at S2
        obtain ⟨s, hs⟩ : ∃ s, s = (q.drop (k + 2)).take m := ⟨_, rfl⟩
        rw [← hs] at B2 L2
        have H := hid (show textB (q.drop k) = .ok (s, q.drop (k + 2 + s.length)) by
          unfold textB
          rw [if_neg (by rw [HD.out]; exact h2), if_neg (by rw [← HM.out]; exact hbig), if_neg (by rw [← HM.out, dd]; exact hlong), ← HM.out, List.drop_drop, List.drop_drop, ← hs, L2])
        have J0 := join_any (B2 w HQ.out) (BSA.nil w) (by rw [L2]; simp; omega)
        simp only [List.length_nil, Nat.add_zero, List.append_nil, L2] at J0
        have HJ := hid J0
        have HL := hid L2
        have hkm : k + 2 + m ≤ n := by omega
        clear hlong hbig dd hs B2 L2 J0 s1 s2
        go_wp2_with fail
        refine HJ.out.mono ?_
        rintro e w2 ⟨A3, c3, rfl, m3⟩
        have r3 := m3.row HL.out.symm
        have b3 := m3.2.2
        clear S2 m3 HJ
        go_wp2
        go_ret3
        exact .inr ⟨A3, c3, s, H.out, by rw [HL.out, HN.out]; exact hkm, by rw [HL.out]; simp, r3, b3⟩
end Go.Proofs.YtcfjciencggflaaDoor
