/- What the walk of the reference's Sum needs of rows of words. -/
import Derived.Test.YtdhhaibefifdmaaGreatDoorShaG
set_option linter.unusedVariables false
set_option linter.unusedSimpArgs false
namespace Go.Proofs.YtdhhaibefifdmaaGreatDoor
open Go.RowKit PrintLast

/-- The first i words of F, the rest noughts: 64 of them. -/
def wrow (F : Nat → UInt32) (i : Nat) : List UInt32 := (List.range 64).map fun j => if j < i then F j else 0
theorem wrow_length (F : Nat → UInt32) (i : Nat) : (wrow F i).length = 64 := by simp [wrow]
theorem wrow_get (F : Nat → UInt32) (i j : Nat) (hj : j < 64) : (wrow F i).getD j 0 = if j < i then F j else 0 := by
  simp [wrow, List.getD_eq_getElem?_getD, hj]
theorem wrow_zero (F : Nat → UInt32) : wrow F 0 = List.replicate 64 0 := by simp [wrow]; rfl
theorem wrow_next (F : Nat → UInt32) (i : Nat) (_hi : i < 64) : (wrow F i).set i (F i) = wrow F (i + 1) := by
  apply List.ext_getElem
  · simp [wrow]
  · intro j h1 h2
    have hj : j < 64 := by simpa [wrow] using h2
    rw [List.getElem_set]
    by_cases e : i = j
    · subst e
      simp [wrow]
    · rw [if_neg e]
      simp only [wrow, List.getElem_map, List.getElem_range]
      by_cases h : j < i
      · rw [if_pos h, if_pos (by omega)]
      · rw [if_neg h, if_neg (by omega)]
/-- Four bytes as a word: as Read spells them. -/
theorem be_read (l : List UInt8) (h : l.length = 4) : ((be l).toNat : Int) = (readNat l : Int) := by
  match l, h with
  | [a, b, c, d], _ =>
    have ha := a.toNat_lt
    have hb := b.toNat_lt
    have hc := c.toNat_lt
    have hd := d.toNat_lt
    have key : ∀ (x : UInt32) (y : UInt8) (n : Nat), x.toNat = n → n < 16777216 → (wOr (wShl x 8) y.toUInt32).toNat = 256 * n + y.toNat := fun x y n hx hn => by
      have hy := y.toNat_lt
      unfold wOr wShl
      rw [UInt32.toNat_or, UInt32.toNat_shiftLeft, hx, UInt8.toNat_toUInt32]
      have e8 : (UInt32.ofNat 8).toNat % 32 = 8 := rfl
      rw [e8, Nat.shiftLeft_eq, Nat.mod_eq_of_lt (by omega)]
      have := Nat.two_pow_add_eq_or_of_lt (i := 8) (b := y.toNat) (by omega) n
      rw [Nat.mul_comm n (2 ^ 8)]
      omega
    have e0 := key 0 a 0 rfl (by omega)
    have e1 := key _ b _ e0 (by omega)
    have e2 := key _ c _ e1 (by omega)
    have e3 := key _ d _ e2 (by omega)
    have : (be [a, b, c, d]).toNat = readNat [a, b, c, d] := by
      simp only [be, readNat, List.foldl_cons, List.foldl_nil]
      simpa using e3
    omega
/-- Moved down by one, from the last place to place j. -/
def sh (l : List UInt32) (j : Nat) : List UInt32 := l.take (j + 1) ++ (l.drop j).take (7 - j)
theorem sh_start {l : List UInt32} (h : l.length = 8) : sh l 7 = l := by
  obtain ⟨a, b, c, d, e, f, g, i, rfl⟩ := eight h
  rfl
theorem sh_length {l : List UInt32} (h : l.length = 8) {j : Nat} (hj : j ≤ 7) : (sh l j).length = 8 := by simp [sh, h]; omega
theorem sh_next {l : List UInt32} (h : l.length = 8) {j : Nat} (h1 : j + 1 ≤ 7) : (sh l (j + 1)).set (j + 1) ((sh l (j + 1)).getD j 0) = sh l j := by
  obtain ⟨a, b, c, d, e, f, g, i, rfl⟩ := eight h
  have : j = 0 ∨ j = 1 ∨ j = 2 ∨ j = 3 ∨ j = 4 ∨ j = 5 ∨ j = 6 := by omega
  rcases this with rfl | rfl | rfl | rfl | rfl | rfl | rfl <;> rfl

/-- One block more. -/
theorem run_next (s : List UInt32) (q : List UInt8) (k : Nat) (h : 64 * (k + 1) ≤ q.length) : (run s (q.take (64 * (k + 1)))).1 = comp (wordsOf ((q.drop (64 * k)).take 64)) (run s (q.take (64 * k))).1 := by
  have e : q.take (64 * (k + 1)) = q.take (64 * k) ++ (q.drop (64 * k)).take 64 := by
    rw [show 64 * (k + 1) = 64 * k + 64 by omega, List.take_add]
  have hr : (run s (q.take (64 * k))).2 = [] := by
    apply List.eq_nil_of_length_eq_zero
    rw [run_rest_length, List.length_take]
    omega
  rw [e, run_append, hr, List.nil_append]
  have hl : ((q.drop (64 * k)).take 64).length = 64 := by simp; omega
  rw [run_block (by omega), List.take_of_length_le (by omega), run_short (by simp)]
theorem chunk_drop (q : List UInt8) (a j : Nat) (hj : j < 16) : chunk ((q.drop a).take 64) j = (q.drop (a + 4 * j)).take 4 := by
  unfold chunk
  rw [List.drop_take, List.drop_drop, List.take_take]
  congr 1
  omega
theorem W_first (q : List UInt8) (j : Nat) (hj : j < 16) : W (wordsOf q) j = be (chunk q j) := by
  rw [W_low (wordsOf_length q) hj]
  simp [wordsOf, List.getD_eq_getElem?_getD, hj]
end Go.Proofs.YtdhhaibefifdmaaGreatDoor
