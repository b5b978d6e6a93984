/- DiskFails: so many calls do as said, all behind them nothing; till a crash. -/
import Derived.Test.YtlfimleciemobaaDiskE
import Derived.IntWalk
import Derived.OpenShut
set_option linter.unusedVariables false
set_option linter.unusedSimpArgs false
namespace Go.Proofs.Ytlfimleciemobaa
open Go.RowKit PrintLast

/-- p, so many times. -/
def rep (p : List UInt8) (j : Nat) : List UInt8 := (List.replicate j p).flatten
theorem rep_succ (p : List UInt8) (j : Nat) : rep p (j + 1) = rep p j ++ p := by
  unfold rep
  rw [List.replicate_succ', List.flatten_append]
  simp
theorem rep_length (p : List UInt8) (j : Nat) : (rep p j).length = p.length * j := by
  induction j with
  | zero => simp [rep]
  | succ j ih => rw [rep_succ, List.length_append, ih, Nat.mul_succ]

/-- The disk behind i of the calls, m of which it does. -/
def failed (p : List UInt8) (m i : Nat) : DS := ⟨rep p (min i m), 0, m - i, true⟩
theorem failed_step (p : List UInt8) (m i : Nat) : (failed p m i).append p = failed p m (i + 1) ∧ (failed p m i).errno = if i < m then 0 else 9 := by
  by_cases h : i < m
  · have ho : (failed p m i).ok = true := by simp [DS.ok, failed]; omega
    refine ⟨?_, by simp [DS.errno, ho, h]⟩
    simp only [DS.append, ho, if_true, DS.called]
    simp only [failed]
    rw [show min (i + 1) m = min i m + 1 by omega, rep_succ, show m - (i + 1) = m - i - 1 by omega]
    simp
  · have ho : (failed p m i).ok = false := by simp [DS.ok, failed]; omega
    refine ⟨?_, by simp [DS.errno, ho, h]⟩
    simp only [DS.append, ho]
    simp only [failed]
    rw [show min (i + 1) m = min i m by omega, show m - (i + 1) = m - i by omega]
    simp

theorem least_any {w : World} (a b : Int) : Calls Try.prog 26 #[.int .i64 a, .int .i64 b] w fun e w' => e = .returned (.int .i64 (min a b)) ∧ w = w' := by
  by_cases h : a < b
  · have e : min a b = a := by omega
    rw [e]
    go_enter Try.func26, Try.ntmps26
    go_wp2
    go_ret
    exact ⟨rfl, rfl⟩
  · have e : min a b = b := by omega
    rw [e]
    go_enter Try.func26, Try.ntmps26
    go_wp2
    go_ret
    exact ⟨rfl, rfl⟩

set_option maxHeartbeats 1600000 in
theorem fails_walk {w : World} {A : Option Addr} {c : Nat} {p : List UInt8} {n : Int} (hn : (Lit.int .u8 n).wf = true) (hp : BSA w A c p) :
    Calls Try.prog 6 #[.int .u8 n, .slice A p.length c] w fun e w' => e = .returned (.bool true) ∧ Below w.heap.size w w' := by
  have hn' := bounds_u8 hn
  obtain ⟨hn0, hn1⟩ := hn'
  clear hn
  by_cases h1 : 20 < p.length
  · have t1 : decide ((20 : Int) < (p.length : Int)) = true := by simp; omega
    go_enter Try.func6, Try.ntmps6
    go_wp2_with fail
    refine keeps_any.mono ?_
    rintro e w1 ⟨rfl, hb1⟩
    go_wp2_with fail
    refine keeps_any.mono ?_
    rintro e w2 ⟨rfl, hb2⟩
    go_wp2
    go_ret
    exact ⟨rfl, below_then hb1 hb2⟩
  · have t1 : decide ((20 : Int) < (p.length : Int)) = false := by simp; omega
    obtain ⟨m, hm⟩ : ∃ m : Nat, n % 9 = (m : Int) := ⟨(n % 9).toNat, by omega⟩
    have hm8 : m ≤ 8 := by omega
    go_enter Try.func6, Try.ntmps6
    go_wp2_with fail
    refine keeps_any.mono ?_
    rintro e w1 ⟨rfl, b1⟩
    have s1 := b1.size
    go_wp2_with fail
    refine (new_B (B := w.heap.size) s1 (BSA.nil w1) (by simp)).mono ?_
    rintro e w2 ⟨b, rfl, d2, b2⟩
    have s2 := b2.size
    have b12 := below_then b1 b2
    clear b1 b2
    go_wp2_with fail
    refine (fail_B (B := w.heap.size) (by omega) d2 (m : Int) (by omega)).mono ?_
    rintro e w3 ⟨rfl, d3, b3⟩
    replace d3 : DiskB w3 w.heap.size b (failed p m 0) := d3
    have b13 := b12.trans b3
    have s3 := b3.size
    clear b12 b3 d2
    go_wp2
    go_loopw [6] (fun i wr => ∃ k : Nat, k ≤ 12 ∧ i = .int .i64 k ∧ Below w.heap.size w wr ∧ DiskB wr w.heap.size b (failed p m k)) (fun i _ => 12 - (intOf i).toNat)
    case atStart => exact ⟨0, by omega, rfl, b13, d3⟩
    case round =>
      clear b13 d3
      obtain ⟨k, hk, rfl, b4, d4⟩ := hrel
      have s4 := b4.size
      by_cases hlt : k < 12
      · obtain ⟨e1, e2⟩ := failed_step p m k
        have C := append_B (B := w.heap.size) s4 d4 (hp.below b4) (by simp only [failed, rep_length]; have := Nat.mul_le_mul (show p.length ≤ 20 by omega) (show min k m ≤ 8 by omega); omega)
        rw [e1, e2] at C
        have HC := hid C
        clear C e1 e2 d4
        have hml : (rep p (min (k + 1) m)).length = p.length * min (k + 1) m := rep_length _ _
        have hmb : p.length * min (k + 1) m ≤ 160 := by have := Nat.mul_le_mul (show p.length ≤ 20 by omega) (show min (k + 1) m ≤ 8 by omega); omega
        obtain ⟨L, hL⟩ : ∃ L, L = p.length * min (k + 1) m := ⟨_, rfl⟩
        have hcast : (p.length : Int) * (min ((k : Int) + 1) (m : Int)) = (L : Int) := by
          rw [hL, show (min ((k : Int) + 1) (m : Int)) = ((min (k + 1) m : Nat) : Int) by omega]
          exact (Int.natCast_mul _ _).symm
        have hLm : (rep p (min (k + 1) m)).length = L := by rw [hml, hL]
        have hLb : L ≤ 160 := by omega
        have hmin0 : (min ((k : Int) + 1) (m : Int)) = ((min (k + 1) m : Nat) : Int) := by omega
        obtain ⟨j, hj⟩ : ∃ j, j = min (k + 1) m := ⟨_, rfl⟩
        have LE := hid (show ∀ W : World, Calls Try.prog 26 #[.int .i64 ((k : Int) + 1), .int .i64 (m : Int)] W fun e w' => e = .returned (.int .i64 (j : Int)) ∧ W = w' from fun W => by
          have := least_any (w := W) ((k : Int) + 1) (m : Int)
          rw [hmin0, ← hj] at this
          exact this)
        have hw := hid (show wrap64 ((p.length : Int) * (j : Int)) = (L : Int) by
          have e : (p.length : Int) * (j : Int) = (L : Int) := by rw [hL, hj]; exact (Int.natCast_mul _ _).symm
          rw [e]; unfold wrap64; omega)
        have hw' := hid (show (p.length : Int) * (j : Int) = (L : Int) by rw [hL, hj]; exact (Int.natCast_mul _ _).symm)
        have HLm := hid hLm
        have tl : ((L : Int) != (L : Int)) = false := by simp
        clear hcast hml hmb hL hLm hmin0 hj
        have HM := hid hm
        have fin : ∀ w5 w6 : World, ∀ v, Below w.heap.size wr w5 → DiskB w5 w.heap.size b (failed p m (k + 1)) → Made w5 w6 v (failed p m (k + 1)).p → Below w.heap.size w w6 ∧ DiskB w6 w.heap.size b (failed p m (k + 1)) :=
          fun w5 w6 v b5 d5 m6 => ⟨(b4.trans b5).trans (m6.2.2.mono (by have := b5.size; omega)), d5.below m6.2.2⟩
        have F := hid fin
        clear fin
        by_cases hkm : k < m
        · have ht : decide ((k : Int) < (m : Int)) = true := by simp; omega
          have HE : (if k < m then (0 : Int) else 9) = 0 := by simp [hkm]
          rw [HE] at HC
          clear HE
          go_wp2_with fail
          refine HC.out.mono ?_
          rintro e w5 ⟨rfl, d5, b5⟩
          have s5 := b5.size
          have R := read_B d5 (by show (rep p (min (k + 1) m)).length ≤ _; rw [HLm.out]; omega)
          have F5 := hid (F.out w5)
          rw [show (failed p m (k + 1)).p.length = L from HLm.out] at R
          have HR := hid R
          clear R
          go_wp2_with fail
          refine HR.out.mono ?_
          rintro e w6 ⟨A6, c6, rfl, m6⟩
          have F6 := hid (F5.out w6 _ b5 d5 m6)
          clear m6 d5 F5 F b5
          go_wp2_with fail
          refine (LE.out _).mono ?_
          rintro e w7 ⟨rfl, rfl⟩
          have HW' := hw'.out
          clear hm HM hn0 hn1 hw hw' HLm LE HR
          go_wp2
          go_roundw
          case rel => exact ⟨k + 1, by omega, by go_num, F6.out.1, F6.out.2⟩
          case measure => simp [intOf]; omega
        · have ht : decide ((k : Int) < (m : Int)) = false := by simp; omega
          have HE : (if k < m then (0 : Int) else 9) = 9 := by simp [hkm]
          rw [HE] at HC
          clear HE
          go_wp2_with fail
          refine HC.out.mono ?_
          rintro e w5 ⟨rfl, d5, b5⟩
          have s5 := b5.size
          have R := read_B d5 (by show (rep p (min (k + 1) m)).length ≤ _; rw [HLm.out]; omega)
          have F5 := hid (F.out w5)
          rw [show (failed p m (k + 1)).p.length = L from HLm.out] at R
          have HR := hid R
          clear R
          go_wp2_with fail
          refine HR.out.mono ?_
          rintro e w6 ⟨A6, c6, rfl, m6⟩
          have F6 := hid (F5.out w6 _ b5 d5 m6)
          clear m6 d5 F5 F b5
          go_wp2_with fail
          refine (LE.out _).mono ?_
          rintro e w7 ⟨rfl, rfl⟩
          have HW' := hw'.out
          clear hm HM hn0 hn1 hw hw' HLm LE HR
          go_wp2
          go_roundw
          case rel => exact ⟨k + 1, by omega, by go_num, F6.out.1, F6.out.2⟩
          case measure => simp [intOf]; omega
      · have hk12 : k = 12 := by omega
        subst hk12
        have e12 : failed p m 12 = ⟨rep p m, 0, 0, true⟩ := by simp only [failed]; rw [show min 12 m = m by omega, show m - 12 = 0 by omega]
        rw [e12] at d4
        have hrl : (rep p m).length ≤ 160 := by rw [rep_length]; have := Nat.mul_le_mul (show p.length ≤ 20 by omega) hm8; omega
        clear e12
        go_wp2_with fail
        refine (sync_B (B := w.heap.size) s4 d4).mono ?_
        rintro e w5 ⟨rfl, d5, b5⟩
        replace d5 : DiskB w5 w.heap.size b ⟨rep p m, 0, 0, true⟩ := d5
        have s5 := b5.size
        have b5' := b4.trans b5
        go_wp2_with fail
        refine (cut_B (B := w.heap.size) (n := 0) (by omega) d5 (by omega) (by simp; omega)).mono ?_
        rintro e w6 ⟨rfl, d6, b6⟩
        replace d6 : DiskB w6 w.heap.size b ⟨rep p m, 0, 0, true⟩ := d6
        have s6 := b6.size
        have b6' := b5'.trans b6
        go_wp2_with fail
        refine (safe_B d6).mono ?_
        rintro e w7 ⟨rfl, rfl⟩
        have pl := hp.le
        go_wp2_with fail
        refine (crash_B (B := w.heap.size) (n := (p.length : Int)) (by omega) d6 (by omega) (by simp; omega)).mono ?_
        rintro e w8 ⟨rfl, d8, b8⟩
        have s8 := b8.size
        have b8' := b6'.trans b8
        obtain ⟨s', hs'⟩ : ∃ s', s' = (⟨rep p m, 0, 0, true⟩ : DS).crash (p.length : Int) := ⟨_, rfl⟩
        have ok8 : s'.fails = false ∧ s'.p.length ≤ 160 := by rw [hs']; simp [DS.crash]; omega
        rw [← hs'] at d8
        obtain ⟨o1, o2⟩ := ok8
        have ok : s'.ok = true := by simp [DS.ok, o1]
        have oa : (s'.append p).ok = true := by simp [DS.append, ok, DS.called, o1, DS.ok]
        have C1 := append_B (B := w.heap.size) (by omega) d8 (hp.below b8') (by omega)
        rw [show s'.errno = 0 by simp [DS.errno, ok]] at C1
        have HC1 := hid C1
        have ON := hid (show (s'.append p).errno = 0 by simp [DS.errno, oa])
        clear C1 hs' o1 ok oa
        go_wp2_with fail
        refine HC1.out.mono ?_
        rintro e w9 ⟨rfl, d9, b9⟩
        have s9 := b9.size
        have C2 := sync_B (B := w.heap.size) (by omega) d9
        rw [ON.out] at C2
        have HC2 := hid C2
        clear C2
        go_wp2_with fail
        refine HC2.out.mono ?_
        rintro e wa ⟨rfl, da, ba⟩
        go_wp2
        go_ret
        exact ⟨rfl, (b8'.trans b9).trans ba⟩
end Go.Proofs.Ytlfimleciemobaa
