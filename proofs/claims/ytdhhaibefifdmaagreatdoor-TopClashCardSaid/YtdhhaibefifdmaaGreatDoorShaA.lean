/- The walks of turn, RotateLeft32, spread: turns to the right, on words of 32 bits. -/
import Derived.Test.YtdhhaibefifdmaaGreatDoorBase
import Derived.Test.YtdhhaibefifdmaaGreatDoorChecked
import Derived.Test.YtdhhaibefifdmaaGreatDoorLast
import Derived.Outline
import Derived.WalkSpells
import Derived.WalkLawsBesides
import Derived.Laws.BitsAllLaws
set_option linter.unusedVariables false
set_option linter.unusedSimpArgs false
namespace Go.Proofs.YtdhhaibefifdmaaGreatDoor
open Go.RowKit

/-! ### Words: their operations under names of their own, so that a walk leaves them as they stand -/
def wAnd (x y : UInt32) : UInt32 := x &&& y
def wOr (x y : UInt32) : UInt32 := x ||| y
def wXor (x y : UInt32) : UInt32 := x ^^^ y
def wAdd (x y : UInt32) : UInt32 := x + y
def wShr (x : UInt32) (n : Nat) : UInt32 := x >>> UInt32.ofNat n
def wShl (x : UInt32) (n : Nat) : UInt32 := x <<< UInt32.ofNat n
/-- x, turned to the right by n. -/
def rotr (x : UInt32) (n : Nat) : UInt32 := wOr (wShr x n) (wShl x (32 - n))

theorem word_lt (x : UInt32) : (x.toNat : Int) < 4294967296 := by have := x.toNat_lt; omega
theorem word_and (x y : UInt32) : bits .and .u32 (x.toNat : Int) (y.toNat : Int) = ((wAnd x y).toNat : Int) := by
  rw [u32_and_nat _ _ x.toNat_lt y.toNat_lt, wAnd, UInt32.toNat_and]
theorem word_or (x y : UInt32) : bits .or .u32 (x.toNat : Int) (y.toNat : Int) = ((wOr x y).toNat : Int) := by
  rw [u32_or_nat _ _ x.toNat_lt y.toNat_lt, wOr, UInt32.toNat_or]
theorem word_xor (x y : UInt32) : bits .xor .u32 (x.toNat : Int) (y.toNat : Int) = ((wXor x y).toNat : Int) := by
  rw [u32_xor_nat _ _ x.toNat_lt y.toNat_lt, wXor, UInt32.toNat_xor]
theorem word_add (x y : UInt32) : ((x.toNat : Int) + (y.toNat : Int)) % 4294967296 = ((wAdd x y).toNat : Int) := by
  rw [wAdd, UInt32.toNat_add]; omega
theorem word_shr (x : UInt32) (n : Nat) (h : n < 32) : (x.toNat : Int) / 2 ^ n = ((wShr x n).toNat : Int) := by
  rw [wShr, UInt32.toNat_shiftRight, UInt32.toNat_ofNat_of_lt' (by simp [UInt32.size]; omega), Nat.mod_eq_of_lt h, Nat.shiftRight_eq_div_pow]
  simp
theorem word_shl (x : UInt32) (n : Nat) (h : n < 32) : (x.toNat : Int) * 2 ^ n % 4294967296 = ((wShl x n).toNat : Int) := by
  rw [wShl, UInt32.toNat_shiftLeft, UInt32.toNat_ofNat_of_lt' (by simp [UInt32.size]; omega), Nat.mod_eq_of_lt h, Nat.shiftLeft_eq]
  simp

theorem turn_any {w : World} {x : UInt32} {n : Nat} (h0 : 0 < n) (h1 : n < 32) :
    Calls Tryz.prog 102 #[.int .u32 (x.toNat : Int), .int .i64 (n : Int)] w fun e w' => e = .returned (.int .u32 ((rotr x n).toNat : Int)) ∧ Below w.heap.size w w' := by
  have e1 := word_shr x n h1
  have e2 := word_shl x (32 - n) (by omega)
  have e3 := word_or (wShr x n) (wShl x (32 - n))
  go_enter Tryz.func102, Tryz.ntmps102
  go_wp2
  go_region
  all_goals
    go_wp2
    go_ret
    exact ⟨rfl, (Below.refl _ w).drew⟩

theorem back_by : ∀ n : Fin 32, 0 < n.val → bits .and .u64 (IntKind.u64.wrap (-(n.val : Int))) 31 = ((32 - n.val : Nat) : Int) ∧ (IntKind.u64.wrap (32 - ((32 - n.val : Nat) : Int))).toNat = n.val := by decide
theorem rotl_any {w : World} {x : UInt32} {n : Nat} (h0 : 0 < n) (h1 : n < 32) :
    Calls Tryz.prog 105 #[.int .u32 (x.toNat : Int), .int .i64 (-(n : Int))] w fun e w' => e = .returned (.int .u32 ((rotr x n).toNat : Int)) ∧ w = w' := by
  obtain ⟨e0, e4⟩ := back_by ⟨n, h1⟩ h0
  have e1 := word_shr x n h1
  have e2 := word_shl x (32 - n) (by omega)
  have e3 : wOr (wShl x (32 - n)) (wShr x n) = rotr x n := by unfold rotr wOr; exact UInt32.or_comm _ _
  obtain ⟨m, hm⟩ : ∃ m, m = 32 - n := ⟨_, rfl⟩
  have m32 : m < 32 := by omega
  have E3 := word_or (wShl x m) (wShr x n)
  simp only [← hm] at e0 e2 e3 e4
  rw [e3] at E3
  have e5 : min m 32 = m := by omega
  have e6 : min n 32 = n := by omega
  have e7 : (x.toNat : Int) / 2 ^ (32 - m) = ((wShr x n).toNat : Int) := by rw [← e1]; congr 2; omega
  clear hm e3
  go_enter Tryz.func105, Tryz.ntmps105
  go_wp2
  go_ret
  exact ⟨rfl, rfl⟩

/-- Two turns, and something more. -/
theorem spread_any {w : World} {x y : UInt32} {a b : Nat} (ha : 0 < a ∧ a < 32) (hb : 0 < b ∧ b < 32) :
    Calls Tryz.prog 104 #[.int .u32 (x.toNat : Int), .int .i64 (a : Int), .int .i64 (b : Int), .int .u32 (y.toNat : Int)] w fun e w' => e = .returned (.int .u32 ((wXor (wXor (rotr x a) (rotr x b)) y).toNat : Int)) ∧ w = w' := by
  have e1 := word_xor (rotr x a) (rotr x b)
  have e2 := word_xor (wXor (rotr x a) (rotr x b)) y
  obtain ⟨ha1, ha2⟩ := ha
  obtain ⟨hb1, hb2⟩ := hb
  go_enter Tryz.func104, Tryz.ntmps104
  go_wp2_with fail
  refine (rotl_any ha1 ha2).mono ?_
  rintro e w1 ⟨rfl, rfl⟩
  go_wp2_with fail
  refine (rotl_any hb1 hb2).mono ?_
  rintro e w1 ⟨rfl, rfl⟩
  go_wp2
  go_ret
  exact ⟨rfl, rfl⟩
end Go.Proofs.YtdhhaibefifdmaaGreatDoor
