/- The walk of sha.Hex. -/
import Derived.Test.YtcigijgiejnodaaDoorBuild
import Derived.Laws.BitsAllLaws
set_option linter.unusedVariables false
set_option linter.unusedSimpArgs false
namespace Go.Proofs.YtcigijgiejnodaaDoor
open Go.RowKit PrintLast

def digitsL : List UInt8 := [48, 49, 50, 51, 52, 53, 54, 55, 56, 57, 97, 98, 99, 100, 101, 102]
def hexOf (l : List UInt8) : List UInt8 := l.flatMap fun b => [digitsL.getD (b.toNat / 16) 0, digitsL.getD (b.toNat % 16) 0]
theorem hexOf_next (l : List UInt8) (k : Nat) (hk : k < l.length) : hexOf (l.take (k + 1)) = hexOf (l.take k) ++ [digitsL.getD (l[k].toNat / 16) 0] ++ [digitsL.getD (l[k].toNat % 16) 0] := by
  rw [List.take_succ_eq_append_getElem hk]
  unfold hexOf
  rw [List.flatMap_append]
  simp only [List.flatMap_cons, List.flatMap_nil, List.append_nil, List.append_assoc, List.cons_append, List.nil_append]
theorem hexOf_length (l : List UInt8) : (hexOf l).length = 2 * l.length := by
  induction l with
  | nil => rfl
  | cons x l ih =>
    have : hexOf (x :: l) = [digitsL.getD (x.toNat / 16) 0, digitsL.getD (x.toNat % 16) 0] ++ hexOf l := rfl
    rw [this, List.length_append, ih, List.length_cons]
    simp
    omega
theorem index_str {w : World} (s : ByteArray) (k : Nat) (hk : k < s.data.toList.length) : (Instr.index 9 (.string s) (.int .i64 (k : Int))).run Tryd.prog w = .ok (.int .u8 ((s.data.toList[k]).toNat : Int)) w := by
  have hs : k < s.size := by simpa using hk
  rw [run_index_string w 9 s .i64 (k : Int) Tryd.underlying9, dif_pos (by omega)]
  simp
  rfl
theorem index_digit {w : World} : ∀ n : Fin 16, (Instr.index 9 (.string ⟨#[48, 49, 50, 51, 52, 53, 54, 55, 56, 57, 97, 98, 99, 100, 101, 102]⟩) (.int .u8 (n.val : Int))).run Tryd.prog w = .ok (.int .u8 ((digitsL.getD n.val 0).toNat : Int)) w := by
  intro n
  rw [run_index_string w 9 _ .u8 (n.val : Int) Tryd.underlying9, dif_pos ⟨by omega, by have := n.isLt; show (n.val : Int) < 16; omega⟩]
  obtain ⟨m, hm⟩ := n
  have : m = 0 ∨ m = 1 ∨ m = 2 ∨ m = 3 ∨ m = 4 ∨ m = 5 ∨ m = 6 ∨ m = 7 ∨ m = 8 ∨ m = 9 ∨ m = 10 ∨ m = 11 ∨ m = 12 ∨ m = 13 ∨ m = 14 ∨ m = 15 := by omega
  rcases this with rfl | rfl | rfl | rfl | rfl | rfl | rfl | rfl | rfl | rfl | rfl | rfl | rfl | rfl | rfl | rfl <;> rfl
theorem low4 (b : UInt8) : bits .and .u8 (b.toNat : Int) 15 = ((b.toNat % 16 : Nat) : Int) := by
  have h := u8_and_nat b.toNat 15 b.toNat_lt (by omega)
  have e : b.toNat &&& 15 = b.toNat % 16 := Nat.and_two_pow_sub_one_eq_mod b.toNat 4
  rw [e] at h
  exact h

set_option maxHeartbeats 1600000 in
theorem hex_any {w : World} {s : ByteArray} (hs : s.data.toList.length ≤ 1000000000) :
    Calls Tryd.prog 15 #[.string s] w fun e w' => e = .returned (.string ⟨(hexOf s.data.toList).toArray⟩) ∧ Below w.heap.size w w' := by
  obtain ⟨l, hl⟩ : ∃ l, l = s.data.toList := ⟨_, rfl⟩
  have hz : (s.size : Int) = (l.length : Int) := by rw [hl]; simp
  have IS := hid (fun (k : Nat) (hk : k < l.length) (w : World) => show (Instr.index 9 (.string s) (.int .i64 (k : Int))).run Tryd.prog w = .ok (.int .u8 ((l[k]).toNat : Int)) w by subst hl; exact index_str s k hk)
  rw [← hl] at hs ⊢
  clear hl
  obtain ⟨B, hB⟩ : ∃ B, B = w.heap.size := ⟨_, rfl⟩
  have IB0 := Lib.fresh_isBuilder 49 5 w
  have hb0 := below_alloc (Below.refl _ w) (.cells #[.pointer none, .slice none 0 0] 49)
  have hnew := heap_alloc_new w (.cells #[.pointer none, .slice none 0 0] 49)
  rw [← hB] at IB0 hb0 hnew ⊢
  have HB := hid hB
  go_enter Tryd.func15, Tryd.ntmps15
  go_wp2
  rw [← hB]
  generalize w.alloc (.cells #[.pointer none, .slice none 0 0] 49) = W0 at *
  clear hB
  go_loopw [7] (fun i wr => ∃ k : Nat, k ≤ l.length ∧ i = .int .i64 k ∧ IsB B B (hexOf (l.take k)) wr ∧ Below B w wr ∧ (k = 0 → W0 = wr)) (fun i _ => l.length - (intOf i).toNat)
  case atStart => exact ⟨0, Nat.zero_le _, rfl, IB0, hb0, fun _ => rfl⟩
  case round =>
    clear IB0 hb0
    obtain ⟨k, hk, rfl, hI, hBW, h0⟩ := hrel
    have sB : B ≤ wr.heap.size := by rw [HB.out]; rw [HB.out] at hBW; exact hBW.size
    by_cases hlt : k < l.length
    · have tk : decide ((k : Int) < (l.length : Int)) = true := by simp; omega
      have ik := IS.out k hlt
      have HN := hid (hexOf_next l k hlt)
      have lh : (hexOf (l.take k)).length ≤ 2000000000 := by rw [hexOf_length, List.length_take]; omega
      obtain ⟨x, hx⟩ : ∃ x, x = l[k] := ⟨_, rfl⟩
      rw [← hx] at HN
      simp only [← hx] at ik
      have xl := x.toNat_lt
      obtain ⟨n1, hn1⟩ : ∃ n, n = x.toNat / 16 := ⟨_, rfl⟩
      obtain ⟨n2, hn2⟩ : ∃ n, n = x.toNat % 16 := ⟨_, rfl⟩
      have q1 : (x.toNat : Int) / 16 = (n1 : Int) := by omega
      have q2 := low4 x
      rw [← hn2] at q2 HN
      rw [← hn1] at HN
      have d1 := fun w : World => index_digit (w := w) ⟨n1, by omega⟩
      have d2 := fun w : World => index_digit (w := w) ⟨n2, by omega⟩
      simp only at d1 d2
      obtain ⟨y1, hy1⟩ : ∃ y, y = digitsL.getD n1 0 := ⟨_, rfl⟩
      obtain ⟨y2, hy2⟩ : ∃ y, y = digitsL.getD n2 0 := ⟨_, rfl⟩
      simp only [← hy1] at d1
      simp only [← hy2] at d2
      rw [← hy1, ← hy2] at HN
      have HW := hid (writeByte_any B B (hexOf (l.take k)) y1 wr hI (by omega) sB)
      clear hx hn1 hn2 hy1 hy2 xl h0
      go_wp2_with fail
      refine HW.out.mono ?_
      rintro e w2 ⟨rfl, h2, B2⟩
      have s2 : B ≤ w2.heap.size := Nat.le_trans sB B2.size
      have HW2 := hid (writeByte_any B B _ y2 w2 h2 (by simp; omega) s2)
      clear HW
      go_wp2_with fail
      refine HW2.out.mono ?_
      rintro e w3 ⟨rfl, h3, B3⟩
      rw [← HN.out] at h3
      go_wp2
      exact ⟨⟨k + 1, hlt, by go_num, h3, (hBW.trans B2).trans B3, fun e => by omega⟩, by simp [intOf]; omega⟩
    · have tk : decide ((k : Int) < (l.length : Int)) = false := by simp; omega
      have hkl : k = l.length := by omega
      rw [List.take_of_length_le (by omega)] at hI
      have HS : Calls Tryd.prog 25 #[.pointer (some ⟨B, 0, none⟩)] wr fun e w' => e = .returned (.string ⟨(hexOf l).toArray⟩) ∧ Below B wr w' := by
        by_cases hne : hexOf l = []
        · have hl0 : l.length = 0 := by have := hexOf_length l; rw [hne] at this; simp at this; omega
          rw [hne]
          have := h0 (by omega)
          subst this
          exact string_new B B _ _ hnew
        · exact string_some B B (hexOf l) wr hI hne
      have HS' := hid HS
      clear HS hkl h0 hI
      go_wp2_with fail
      refine HS'.out.mono ?_
      rintro e w2 ⟨rfl, B2⟩
      go_wp2
      go_ret
      exact ⟨rfl, hBW.trans B2⟩
end Go.Proofs.YtcigijgiejnodaaDoor
