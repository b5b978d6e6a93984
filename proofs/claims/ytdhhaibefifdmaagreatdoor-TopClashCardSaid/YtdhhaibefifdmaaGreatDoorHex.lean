/- The walk of sha.Hex. -/
import Derived.Test.YtdhhaibefifdmaaGreatDoorBuild
import Derived.Laws.BitsAllLaws
set_option linter.unusedVariables false
set_option linter.unusedSimpArgs false
namespace Go.Proofs.YtdhhaibefifdmaaGreatDoor
open Go.RowKit PrintLast

def digitsL : List UInt8 := [48, 49, 50, 51, 52, 53, 54, 55, 56, 57, 97, 98, 99, 100, 101, 102]
def hexOf (l : List UInt8) : List UInt8 := l.flatMap fun b => [digitsL.getD (b.toNat / 16) 0, digitsL.getD (b.toNat % 16) 0]
theorem hexOf_next (l : List UInt8) (k : Nat) (hk : k < l.length) : hexOf (l.take (k + 1)) = hexOf (l.take k) ++ [digitsL.getD (l[k].toNat / 16) 0] ++ [digitsL.getD (l[k].toNat % 16) 0] := by
  rw [List.take_succ_eq_append_getElem hk]
  unfold hexOf
  rw [List.flatMap_append]
  simp only [List.flatMap_cons, List.flatMap_nil, List.append_nil, List.append_assoc, List.cons_append, List.nil_append]
theorem hexOf_length (l : List UInt8) : (hexOf l).length = 2 * l.length := by
  induction l with
  | nil => rfl
  | cons x l ih =>
    have : hexOf (x :: l) = [digitsL.getD (x.toNat / 16) 0, digitsL.getD (x.toNat % 16) 0] ++ hexOf l := rfl
    rw [this, List.length_append, ih, List.length_cons]
    simp
    omega
theorem index_str {w : World} (s : ByteArray) (k : Nat) (hk : k < s.data.toList.length) : (Instr.index 9 (.string s) (.int .i64 (k : Int))).run Tryz.prog w = .ok (.int .u8 ((s.data.toList[k]).toNat : Int)) w := by
  have hs : k < s.size := by simpa using hk
  rw [run_index_string w 9 s .i64 (k : Int) Tryz.underlying9, dif_pos (by omega)]
  simp
  rfl
theorem index_digit {w : World} : ∀ n : Fin 16, (Instr.index 9 (.string ⟨#[48, 49, 50, 51, 52, 53, 54, 55, 56, 57, 97, 98, 99, 100, 101, 102]⟩) (.int .u8 (n.val : Int))).run Tryz.prog w = .ok (.int .u8 ((digitsL.getD n.val 0).toNat : Int)) w := by
  intro n
  rw [run_index_string w 9 _ .u8 (n.val : Int) Tryz.underlying9, dif_pos ⟨by omega, by have := n.isLt; show (n.val : Int) < 16; omega⟩]
  obtain ⟨m, hm⟩ := n
  have : m = 0 ∨ m = 1 ∨ m = 2 ∨ m = 3 ∨ m = 4 ∨ m = 5 ∨ m = 6 ∨ m = 7 ∨ m = 8 ∨ m = 9 ∨ m = 10 ∨ m = 11 ∨ m = 12 ∨ m = 13 ∨ m = 14 ∨ m = 15 := by omega
  rcases this with rfl | rfl | rfl | rfl | rfl | rfl | rfl | rfl | rfl | rfl | rfl | rfl | rfl | rfl | rfl | rfl <;> rfl
theorem low4 (b : UInt8) : bits .and .u8 (b.toNat : Int) 15 = ((b.toNat % 16 : Nat) : Int) := by
  have h := u8_and_nat b.toNat 15 b.toNat_lt (by omega)
  have e : b.toNat &&& 15 = b.toNat % 16 := Nat.and_two_pow_sub_one_eq_mod b.toNat 4
  rw [e] at h
  exact h

end Go.Proofs.YtdhhaibefifdmaaGreatDoor
