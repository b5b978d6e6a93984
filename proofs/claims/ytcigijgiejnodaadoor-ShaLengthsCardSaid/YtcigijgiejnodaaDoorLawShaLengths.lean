/- ShaLengths: of so many bytes, of one kind. -/
import Derived.Test.YtcigijgiejnodaaDoorShaI
import Derived.Test.YtcigijgiejnodaaDoorAbc
import Derived.Test.YtcigijgiejnodaaDoorOpen
import Derived.Test.YtcigijgiejnodaaDoorMade
set_option linter.unusedVariables false
set_option linter.unusedSimpArgs false
namespace Go.Proofs.YtcigijgiejnodaaDoor
open Go.RowKit Go.ChangeShapes Go.WideShapes Go.Deep PrintLast

set_option maxHeartbeats 1600000 in
theorem lengths_walk {w : World} (hT : Table w) {n b : Int} (hn : (Lit.int .u16 n).wf = true) (hb : (Lit.int .u8 b).wf = true) :
    Calls Tryd.prog 4 #[.int .u16 n, .int .u8 b] w fun e w' => e = .returned (.bool true) ∧ Below w.heap.size w w' := by
  obtain ⟨b, rfl⟩ : ∃ b8 : UInt8, b = (b8.toNat : Int) := ⟨UInt8.ofNat b.toNat, (u8_of_int hb).symm⟩
  have hn' := bounds_u16 hn
  obtain ⟨N, rfl⟩ : ∃ N : Nat, n = (N : Int) := ⟨n.toNat, by omega⟩
  obtain ⟨m, hm⟩ : ∃ m, m = N % 600 := ⟨_, rfl⟩
  have hm6 : m < 600 := by omega
  have tm : (N : Int).tmod 600 = (m : Int) := by rw [Int.tmod_eq_emod_of_nonneg (by omega)]; omega
  have tm' : (N : Int) % 600 = (m : Int) := by omega
  have mk := fun (w : World) => run_make_row' (P := Tryd.prog) 22 5 (.int .u8 0) 1 Tryd.underlying22 infU8 rfl .i64 .i64 m (by omega) (by omega) w
  have HTB := hid hT
  have r1 := noughts_row w (B := w.heap.size) (Nat.le_refl _) (n := m) (by unfold maxLen; omega)
  have al := below_alloc (Below.refl _ w) (.cells (madeCells #[.int .u8 0] m) 5)
  obtain ⟨l, hl⟩ : ∃ l, l = List.replicate m (0 : UInt8) := ⟨_, rfl⟩
  have ll : l.length = m := by rw [hl]; simp
  rw [← hl, ← part_start l b] at r1
  obtain ⟨g, hg⟩ : ∃ g, g = w.heap.size := ⟨_, rfl⟩
  have gB : w.heap.size ≤ g := by omega
  have r1' : Row (w.alloc (.cells (madeCells #[.int .u8 0] m) 5)) w.heap.size (some ⟨g, 0, none⟩) m (part l b 0) := by rw [hg]; exact r1
  have hg' := hid hg
  have LL := hid ll
  clear hn hb hm hT hg hl r1 hn' ll
  go_enter Tryd.func4, Tryd.ntmps4
  go_wp2
  rw [← hg'.out]
  generalize w.alloc (.cells (madeCells #[.int .u8 0] m) 5) = W1 at *
  clear mk
  go_loopw [6] (fun i wr => ∃ k : Nat, k ≤ m ∧ i = .int .i64 k ∧ Row wr w.heap.size (some ⟨g, 0, none⟩) m (part l b k) ∧ Below w.heap.size w wr) (fun i _ => m - (intOf i).toNat)
  case atStart => exact ⟨0, Nat.zero_le _, rfl, r1', al⟩
  case round =>
    clear r1' al
    obtain ⟨k, hk, rfl, hR, hB⟩ := hrel
    by_cases hlt : k < m
    · obtain ⟨cur, hg, hc, _⟩ := hR.heap
      rw [part_length b (by rw [LL.out]; exact hk), LL.out] at hc
      have c0 := cell_at hg (i := k) (v := cur[k]) (by simp)
      have f0 := free_at hg k
      have R1 := hR.set k b
      rw [part_next b (by rw [LL.out]; exact hlt)] at R1
      have HR := hid R1
      have HB := hid (hB.setCell (p := ⟨g, k, none⟩) gB (.int .u8 (b.toNat : Int)))
      clear hR hB hg R1
      go_wp2
      go_roundw
      case rel => exact ⟨k + 1, by omega, by go_num, HR.out, HB.out⟩
      case measure => simp [intOf]; omega
    · obtain rfl : k = m := by omega
      have e0 : part l b k = List.replicate k b := by
        have := part_all (l := l) b
        rw [LL.out] at this
        exact this
      rw [e0] at hR
      obtain ⟨q, hq⟩ : ∃ q, q = List.replicate k b := ⟨_, rfl⟩
      have l2 : q.length = k := by rw [hq]; simp
      rw [← hq] at hR
      have L2 := hid l2
      have r2 := hR.bsa
      have HA := hid (abc_any (HTB.out.below hB))
      clear hR e0 hq l2
      go_wp2_with fail
      refine HA.out.mono ?_
      rintro e w3 ⟨rfl, b3⟩
      have HS0 := sum_any (HTB.out.below (below_then hB b3)) (r2.below b3) (by rw [L2.out]; omega)
      rw [L2.out] at HS0
      have HS := hid HS0
      clear HS0
      go_wp2_with fail
      refine HS.out.mono ?_
      rintro e w4 ⟨rfl, b4⟩
      have HR0 := rsum_any ((r2.below b3).below b4) (by rw [L2.out]; omega)
      rw [L2.out] at HR0
      have HR := hid HR0
      clear HR0
      go_wp2_with fail
      refine HR.out.mono ?_
      rintro e w5 ⟨rfl, b5⟩
      have tt : (((⟨(sum256 q).toArray⟩ : ByteArray).toList == (⟨(sum256 q).toArray⟩ : ByteArray).toList)) = true := by simp
      go_wp2
      go_ret
      exact ⟨rfl, below_then (below_then (below_then hB b3) b4) b5⟩
end Go.Proofs.YtcigijgiejnodaaDoor
